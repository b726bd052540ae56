/- Texts of this claim, laid together by a program (wip/e/merge2.py): MFrx53, Evl, PuWire, MFrx15, HFr, HFa, MFrx68, MFrx73. -/
import Derived.Test.YtaaifdclojkdmaaGreatDoorZFz2
import Derived.Test.YtaaifdclojkdmaaGreatDoorZFz3
import Derived.Laws.BitsAllLaws
namespace Go.Proofs.YtaaifdclojkdmaaGreatDoor.MFr
open Go.RowKit Go.Proofs.YtaaifdclojkdmaaGreatDoorW.PrintWords Go.Proofs.YtaaifdclojkdmaaGreatDoorW.PrintLast Go.Proofs.YtaaifdclojkdmaaGreatDoorW.PrintMore
attribute [local go_sem] mp_u32s mp_u32m mp_u8s mp_u8m max2_int min2_int max_two min_two max_three min_three max_four min_four
set_option linter.unusedVariables false
set_option linter.unusedSimpArgs false
def wire_Signed.f (k : Nat) (a0 : Int) (a1 : Int) : Option (List Int × Bool) := (wire_right.f a1).bind fun t165 => (if t165 = true then (if 0 ≤ (wrap64 ((wrap64 (8 * a1)) - 1)) then (if a0 < (wrap64 (-(shl .i64 1 (wrap64 ((wrap64 (8 * a1)) - 1))))) then (some (([] : List Int), false)) else (if a0 ≥ (shl .i64 1 (wrap64 ((wrap64 (8 * a1)) - 1))) then (some (([] : List Int), false)) else ((wire_put.f k a0 a1).bind fun t166 => (some (t166, true))))) else (none)) else (some (([] : List Int), false)))
theorem wire_Signed.mono : ∀ a0 a1 k, LeO (wire_Signed.f k a0 a1) (wire_Signed.f (k + 1) a0 a1) := by
 intro a0 a1 k
 unfold wire_Signed.f
 repeat' first
   | (with_reducible exact wire_put.mono _ _ _)
   | (with_reducible exact LeO.refl _)
   | (with_reducible exact LeO.none _)
   | (with_reducible refine LeO.ite ?_ ?_)
   | (with_reducible refine LeO.bind ?_ (fun _ => ?_))
   | exact wire_put.mono _ _ _
   | exact LeO.none _
   | refine LeO.ite ?_ ?_
   | refine LeO.bind ?_ (fun _ => ?_)
set_option maxHeartbeats 8000000 in
set_option maxRecDepth 100000 in
theorem wire_Signed.calls (k : Nat) (a0 : Int) (a1 : Int) (r1 : List Int) (r2 : Bool) (w : World) (h : wire_Signed.f k a0 a1 = some (r1, r2)) :
  Calls Tryz.prog 51 #[.int .i64 a0, .int .i64 a1] w fun e w' => ∃ v0_ : Value, e = .returned (.tuple #[v0_, .bool r2]) ∧ Kd.R (Kd.int .u8) 5 w' w.heap.size (fun _ => True) v0_ r1 ∧ Below w.heap.size w w' := by
 have HB := Aside0.mk (Below.refl w.heap.size w)
 have H : ((wire_right.f a1).bind fun t165 => (if t165 = true then (if 0 ≤ (wrap64 ((wrap64 (8 * a1)) - 1)) then (if a0 < (wrap64 (-(shl .i64 1 (wrap64 ((wrap64 (8 * a1)) - 1))))) then (some (([] : List Int), false)) else (if a0 ≥ (shl .i64 1 (wrap64 ((wrap64 (8 * a1)) - 1))) then (some (([] : List Int), false)) else ((wire_put.f k a0 a1).bind fun t166 => (some (t166, true))))) else (none)) else (some (([] : List Int), false)))) = some (r1, r2) := h
 clear h
 replace H := Option.bind_eq_some_iff.mp H
 obtain ⟨t165, A30, H⟩ := H
 replace H : (if t165 = true then (if 0 ≤ (wrap64 ((wrap64 (8 * a1)) - 1)) then (if a0 < (wrap64 (-(shl .i64 1 (wrap64 ((wrap64 (8 * a1)) - 1))))) then (some (([] : List Int), false)) else (if a0 ≥ (shl .i64 1 (wrap64 ((wrap64 (8 * a1)) - 1))) then (some (([] : List Int), false)) else ((wire_put.f k a0 a1).bind fun t166 => (some (t166, true))))) else (none)) else (some (([] : List Int), false))) = some (r1, r2) := H
 have A3 := Aside0.mk A30
 clear A30
 by_cases c4 : t165 = true
 ·subst c4
  have H1 : (if 0 ≤ (wrap64 ((wrap64 (8 * a1)) - 1)) then (if a0 < (wrap64 (-(shl .i64 1 (wrap64 ((wrap64 (8 * a1)) - 1))))) then (some (([] : List Int), false)) else (if a0 ≥ (shl .i64 1 (wrap64 ((wrap64 (8 * a1)) - 1))) then (some (([] : List Int), false)) else ((wire_put.f k a0 a1).bind fun t166 => (some (t166, true))))) else (none)) = some (r1, r2) := by rw [if_pos rfl] at H; exact H
  clear H
  have H := H1
  clear H1
  obtain ⟨ji5, hji5⟩ : ∃ j_ : Int, (wrap64 ((wrap64 (8 * a1)) - 1)) = j_ := ⟨_, rfl⟩
  replace H : (if 0 ≤ (ji5) then (if a0 < (wrap64 (-(shl .i64 1 (ji5)))) then (some (([] : List Int), false)) else (if a0 ≥ (shl .i64 1 (ji5)) then (some (([] : List Int), false)) else ((wire_put.f k a0 a1).bind fun t166 => (some (t166, true))))) else (none)) = some (r1, r2) := by first | (rw [hji5] at H; exact H) | (simp only [hji5] at H ⊢; exact H)
  (try rw [hji5] at A3)
  have hji5w : (IntKind.i64.wrap ((wrap64 (8 * a1)) - 1)) = ji5 := (i64_w _).trans hji5
  by_cases c6 : 0 ≤ (ji5)
  ·rw [if_pos c6] at H
   have c6b0 := eq_true c6
   have c6b1 : decide (0 ≤ (ji5)) = true := decide_eq_true c6
   clear c6
   obtain ⟨ji7, hji7⟩ : ∃ j_ : Int, (shl .i64 1 (ji5)) = j_ := ⟨_, rfl⟩
   replace H : (if a0 < (wrap64 (-(ji7))) then (some (([] : List Int), false)) else (if a0 ≥ (ji7) then (some (([] : List Int), false)) else ((wire_put.f k a0 a1).bind fun t166 => (some (t166, true))))) = some (r1, r2) := by first | (rw [hji7] at H; exact H) | (simp only [hji7] at H ⊢; exact H)
   (try rw [hji7] at A3)
   have hji7_ : (IntKind.i64.wrap (1 * 2 ^ min (ji5).toNat 64)) = ji7 := hji7
   have hji7z : (ji5) ≤ 64 → (IntKind.i64.wrap (1 * 2 ^ (ji5).toNat)) = ji7 := shl_small hji7
   have hji7u : (IntKind.i64.wrap (2 ^ min (ji5).toNat 64)) = ji7 := by have h_ := hji7_; rw [Int.one_mul] at h_; exact h_
   have hji7v : (ji5) ≤ 64 → (IntKind.i64.wrap (2 ^ (ji5).toNat)) = ji7 := fun hle_ => by have h_ := hji7z hle_; rw [Int.one_mul] at h_; exact h_
   have hji7y : (wrap64 (1 * 2 ^ min (ji5).toNat 64)) = ji7 := (i64_w _).symm.trans hji7_
   have hji7x : (ji5) ≤ 64 → (wrap64 (1 * 2 ^ (ji5).toNat)) = ji7 := fun h_ => (i64_w _).symm.trans (hji7z h_)
   by_cases c8 : a0 < (wrap64 (-(ji7)))
   ·rw [if_pos c8] at H
    have c8b0 : decide (a0 < (wrap64 (-(ji7)))) = true := decide_eq_true c8
    clear c8
    simp only [Option.some.injEq, Prod.mk.injEq] at H
    obtain ⟨rfl, rfl⟩ := H
    go_enter Tryz.func51, Tryz.ntmps51
    go_wp2_with (first | ((with_reducible refine gate_callee (f := 74) rfl ?_); refine goesL_ (some 8) rfl rfl Tryz.func74 (by kernel_rfl) rfl #[.int .i64 a1] rfl (by (try simp only [List.map_toArray, List.map_cons, List.map_nil]); first | done | rfl | (simp only [List.length_drop, List.length_take]; rfl)) ?_; (with_reducible refine (wire_right.calls a1 true _ A3.out).mono ?_); rintro e w' ⟨rfl, ⟨nd, rfl⟩⟩; refine ⟨_, rfl, ?_⟩))
    go_ret2
    exact ⟨_, by first | rfl | (simp [errW_none, errW_some] <;> rfl) | (simp only [← hji5, ← hji7]; first | rfl | (simp [errW_none, errW_some] <;> rfl)) | (simp [*, errW_none, errW_some] <;> rfl), by first | exact Kd.R_nil _ _ _ _ _ | exact Kd.N_nil _ _ _ _ _ | exact Kd.V_nil _ _ _ _ _ | exact Kd.Q_nil _ _ _ _ _ | exact Kd.S_nil _ _ _ _ _, by repeat (first | (with_reducible first | exact HB.out | apply below_alloc | apply pw_below_drewN | apply below_drew1) | exact HB.out)⟩
   ·rw [if_neg c8] at H
    have c8b0 : decide (a0 < (wrap64 (-(ji7)))) = false := decide_eq_false c8
    clear c8
    by_cases c9 : a0 ≥ (ji7)
    ·rw [if_pos c9] at H
     have c9b0 : decide ((ji7) ≤ a0) = true := decide_eq_true c9
     clear c9
     simp only [Option.some.injEq, Prod.mk.injEq] at H
     obtain ⟨rfl, rfl⟩ := H
     go_enter Tryz.func51, Tryz.ntmps51
     go_wp2_with (first | ((with_reducible refine gate_callee (f := 74) rfl ?_); refine goesL_ (some 8) rfl rfl Tryz.func74 (by kernel_rfl) rfl #[.int .i64 a1] rfl (by (try simp only [List.map_toArray, List.map_cons, List.map_nil]); first | done | rfl | (simp only [List.length_drop, List.length_take]; rfl)) ?_; (with_reducible refine (wire_right.calls a1 true _ A3.out).mono ?_); rintro e w' ⟨rfl, ⟨nd, rfl⟩⟩; refine ⟨_, rfl, ?_⟩))
     go_ret2
     exact ⟨_, by first | rfl | (simp [errW_none, errW_some] <;> rfl) | (simp only [← hji5, ← hji7]; first | rfl | (simp [errW_none, errW_some] <;> rfl)) | (simp [*, errW_none, errW_some] <;> rfl), by first | exact Kd.R_nil _ _ _ _ _ | exact Kd.N_nil _ _ _ _ _ | exact Kd.V_nil _ _ _ _ _ | exact Kd.Q_nil _ _ _ _ _ | exact Kd.S_nil _ _ _ _ _, by repeat (first | (with_reducible first | exact HB.out | apply below_alloc | apply pw_below_drewN | apply below_drew1) | exact HB.out)⟩
    ·rw [if_neg c9] at H
     have c9b0 : decide ((ji7) ≤ a0) = false := decide_eq_false c9
     clear c9
     replace H := Option.bind_eq_some_iff.mp H
     obtain ⟨t166, A100, H⟩ := H
     replace H : (some (t166, true)) = some (r1, r2) := H
     have A10 := Aside0.mk A100
     clear A100
     simp only [Option.some.injEq, Prod.mk.injEq] at H
     obtain ⟨rfl, rfl⟩ := H
     go_enter Tryz.func51, Tryz.ntmps51
     go_wp2_with (first | ((with_reducible refine gate_callee (f := 74) rfl ?_); refine goesL_ (some 8) rfl rfl Tryz.func74 (by kernel_rfl) rfl #[.int .i64 a1] rfl (by (try simp only [List.map_toArray, List.map_cons, List.map_nil]); first | done | rfl | (simp only [List.length_drop, List.length_take]; rfl)) ?_; (with_reducible refine (wire_right.calls a1 true _ A3.out).mono ?_); rintro e w' ⟨rfl, ⟨nd, rfl⟩⟩; refine ⟨_, rfl, ?_⟩) | ((with_reducible refine gate_callee (f := 75) rfl ?_); refine goesL_ (some 25) rfl rfl Tryz.func75 (by kernel_rfl) rfl #[.int .i64 a0, .int .i64 a1] rfl (by (try simp only [List.map_toArray, List.map_cons, List.map_nil]); first | done | rfl | (simp only [List.length_drop, List.length_take]; rfl)) ?_; (with_reducible refine (wire_put.calls k a0 a1 t166 _ A10.out).mono ?_); rintro e w11 ⟨v167, rfl, ho0, hb⟩; refine ⟨_, rfl, ?_⟩; have n0_ := Aside0.mk (Kd.R_lower ho0 (below_size (by repeat (first | (with_reducible first | exact HB.out | apply below_alloc | apply pw_below_drewN | apply below_drew1) | exact HB.out)))); have n1_ := Aside0.mk (below_step (by repeat (first | (with_reducible first | exact HB.out | apply below_alloc | apply pw_below_drewN | apply below_drew1) | exact HB.out)) hb); clear HB; have HO168 := n0_; have HB := n1_; clear n0_ n1_; (try clear hb); (try clear hb2); (try clear hk); (try clear hi); (try clear ho0)))
     go_ret2
     exact ⟨_, by first | rfl | (simp [errW_none, errW_some] <;> rfl) | (simp only [← hji5, ← hji7]; first | rfl | (simp [errW_none, errW_some] <;> rfl)) | (simp [*, errW_none, errW_some] <;> rfl), by (with_reducible repeat (first | apply Kd.R_alloc | apply Kd.R_drewN | apply Kd.R_drew)); exact HO168.out, by repeat (first | (with_reducible first | exact HB.out | apply below_alloc | apply pw_below_drewN | apply below_drew1) | exact HB.out)⟩
  ·rw [if_neg c6] at H
   exact absurd H (by simp)
 ·replace c4 := Bool.eq_false_iff.mpr c4
  subst c4
  have H1 : (some (([] : List Int), false)) = some (r1, r2) := by rw [if_neg (show ¬ (false = true) by decide)] at H; exact H
  clear H
  have H := H1
  clear H1
  simp only [Option.some.injEq, Prod.mk.injEq] at H
  obtain ⟨rfl, rfl⟩ := H
  go_enter Tryz.func51, Tryz.ntmps51
  go_wp2_with (first | ((with_reducible refine gate_callee (f := 74) rfl ?_); refine goesL_ (some 8) rfl rfl Tryz.func74 (by kernel_rfl) rfl #[.int .i64 a1] rfl (by (try simp only [List.map_toArray, List.map_cons, List.map_nil]); first | done | rfl | (simp only [List.length_drop, List.length_take]; rfl)) ?_; (with_reducible refine (wire_right.calls a1 false _ A3.out).mono ?_); rintro e w' ⟨rfl, ⟨nd, rfl⟩⟩; refine ⟨_, rfl, ?_⟩))
  go_ret2
  exact ⟨_, by first | rfl | (simp [errW_none, errW_some] <;> rfl) | (simp [*, errW_none, errW_some] <;> rfl), by first | exact Kd.R_nil _ _ _ _ _ | exact Kd.N_nil _ _ _ _ _ | exact Kd.V_nil _ _ _ _ _ | exact Kd.Q_nil _ _ _ _ _ | exact Kd.S_nil _ _ _ _ _, by repeat (first | (with_reducible first | exact HB.out | apply below_alloc | apply pw_below_drewN | apply below_drew1) | exact HB.out)⟩
end Go.Proofs.YtaaifdclojkdmaaGreatDoor.MFr
namespace Go.Proofs.YtaaifdclojkdmaaGreatDoor.Evl
open Go.Proofs.YtaaifdclojkdmaaGreatDoorW.PrintWords
def Evl {α : Type} (g : Nat → Option α) (r : α) : Prop := ∃ K, ∀ k, K ≤ k → g k = some r
theorem Evl.now {α : Type} {g : Nat → Option α} {r : α} (h : ∀ k, g k = some r) : Evl g r := ⟨0, fun k _ => h k⟩
theorem Evl.step {α : Type} {g h : Nat → Option α} {r : α} (e : ∀ k, g (k + 1) = h k) (hh : Evl h r) : Evl g r := by
  obtain ⟨K, hK⟩ := hh
  exact ⟨K + 1, fun k hk => by obtain ⟨m, rfl⟩ : ∃ m, k = m + 1 := ⟨k - 1, by omega⟩; rw [e]; exact hK m (by omega)⟩
theorem Evl.succ {α : Type} {g : Nat → Option α} {r : α} (hh : Evl (fun k => g (k + 1)) r) : Evl g r := Evl.step (fun _ => rfl) hh
theorem Evl.stop {α : Type} {g : Nat → Option α} {r : α} (e : ∀ k, g (k + 1) = some r) : Evl g r := Evl.step (h := fun _ => some r) e (Evl.now fun _ => rfl)
theorem Evl.congr {α : Type} {g h : Nat → Option α} {r : α} (e : ∀ k, g k = h k) (hh : Evl h r) : Evl g r := by
  have : g = h := funext e
  rw [this]; exact hh
theorem Evl.bind {α β : Type} {f : Nat → Option α} {g : Nat → α → Option β} {a : α} {r : β} (hf : Evl f a) (hg : Evl (fun k => g k a) r) : Evl (fun k => (f k).bind (g k)) r := by
  obtain ⟨K, hK⟩ := hf
  obtain ⟨M, hM⟩ := hg
  exact ⟨max K M, fun k hk => by simp only [hK k (by omega), Option.bind_some]; exact hM k (by omega)⟩
theorem Evl.some_ {α : Type} {g : Nat → Option α} {r : α} (h : Evl g r) : ∃ k, g k = some r := by
  obtain ⟨K, hK⟩ := h
  exact ⟨K, hK K (Nat.le_refl _)⟩
theorem Evl.mono {α : Type} {g : Nat → Option α} {r : α} (h : ∀ k, LeO (g k) (g (k + 1))) {n : Nat} (hn : g n = some r) : Evl g r :=
  ⟨n, fun _ hk => at_rounds h hk hn⟩
theorem Evl.and {α β : Type} {f : Nat → Option α} {g : Nat → Option β} {a : α} {b : β} (hf : Evl f a) (hg : Evl g b) : ∃ K, ∀ k, K ≤ k → f k = some a ∧ g k = some b := by
  obtain ⟨K, hK⟩ := hf
  obtain ⟨M, hM⟩ := hg
  exact ⟨max K M, fun k hk => ⟨hK k (by omega), hM k (by omega)⟩⟩
end Go.Proofs.YtaaifdclojkdmaaGreatDoor.Evl
set_option linter.unusedVariables false
set_option linter.unusedSimpArgs false
namespace Go.Proofs.YtaaifdclojkdmaaGreatDoor.Wire
open Go.RowKit Go.Proofs.YtaaifdclojkdmaaGreatDoor.MFr Go.Proofs.YtaaifdclojkdmaaGreatDoorW.PrintWords Go.Proofs.YtaaifdclojkdmaaGreatDoorW.PrintLast Go.Proofs.YtaaifdclojkdmaaGreatDoorW.PrintMore Go.Proofs.YtaaifdclojkdmaaGreatDoor.Evl
theorem w64 {x : Int} (h1 : -9223372036854775808 ≤ x) (h2 : x ≤ 9223372036854775807) : wrap64 x = x := by
 unfold wrap64; omega
theorem wu64 {x : Int} (h1 : 0 ≤ x) (h2 : x ≤ 18446744073709551615) : IntKind.u64.wrap x = x := by
 simp [IntKind.wrap, IntKind.signed, IntKind.bits]; omega
def p : Nat → Int
 | 0 => 1
 | w + 1 => 256 * p w
theorem p_pos : ∀ w, 0 < p w
 | 0 => by decide
 | w + 1 => by have := p_pos w; unfold p; omega
theorem p_pow : ∀ w, p w = 2 ^ (8 * w)
 | 0 => rfl
 | w + 1 => by rw [p, p_pow w, show 8 * (w + 1) = 8 * w + 8 by omega, Int.pow_add]; omega
theorem p_le {w v : Nat} (h : w ≤ v) : p w ≤ p v := by
 induction v with
 | zero =>
  obtain rfl : w = 0 := by omega
  exact Int.le_refl _
 | succ v ih =>
  by_cases e : w = v + 1
  ·rw [e]; exact Int.le_refl _
  ·have := ih (by omega); have := p_pos v; show p w ≤ 256 * p v; omega
def enc (n : Int) : Nat → List Int
 | 0 => []
 | w + 1 => (n / p w % 256) :: enc n w
def num : List Int → Int
 | [] => 0
 | c :: l => c * p l.length + num l
def Bys (l : List Int) : Prop := ∀ x ∈ l, 0 ≤ x ∧ x ≤ 255
theorem enc_len (n : Int) : ∀ w, (enc n w).length = w
 | 0 => rfl
 | w + 1 => by simp [enc, enc_len n w]
theorem enc_bys (n : Int) : ∀ w, Bys (enc n w)
 | 0 => by intro x hx; simp [enc] at hx
 | w + 1 => by
  intro x hx
  simp only [enc, List.mem_cons] at hx
  rcases hx with rfl | hx
  ·omega
  ·exact enc_bys n w x hx
theorem num_in : ∀ {l : List Int}, Bys l → 0 ≤ num l ∧ num l < p l.length
 | [], _ => by simp [num, p]
 | c :: l, h => by
  have hc := h c (by simp)
  have hl := num_in (l := l) (fun x hx => h x (by simp [hx]))
  have hp := p_pos l.length
  simp only [num, List.length_cons, p]
  have h1 : 0 ≤ c * p l.length := Int.mul_nonneg hc.1 (by omega)
  have h2 : c * p l.length ≤ 255 * p l.length := Int.mul_le_mul_of_nonneg_right hc.2 (by omega)
  omega
theorem enc_add (n a : Int) : ∀ w, enc (n + a * p w) w = enc n w
 | 0 => rfl
 | w + 1 => by
  have hp := p_pos w
  have e : n + a * p (w + 1) = n + (a * 256) * p w := by rw [p, Int.mul_assoc]
  rw [e]
  simp only [enc]
  rw [enc_add n (a * 256) w, Int.add_mul_ediv_right _ _ (by omega)]
  congr 1
  omega
theorem num_enc (n : Int) : ∀ w, num (enc n w) = n % p w
 | 0 => by simp [enc, num, p]
 | w + 1 => by
  have hp := p_pos w
  simp only [enc, num]
  rw [enc_len, num_enc n w]
  have h1 := Int.mul_ediv_add_emod n (p w)
  have h2 := Int.emod_nonneg n (show p w ≠ 0 by omega)
  have h3 := Int.emod_lt_of_pos n hp
  generalize n / p w = q at *
  generalize n % p w = r at *
  have e : n = (q % 256 * p w + r) + (q / 256) * p (w + 1) := by
   rw [p, ← Int.mul_assoc, ← h1]
   have : q = q % 256 + q / 256 * 256 := by omega
   calc p w * q + r = q * p w + r := by rw [Int.mul_comm]
    _ = (q % 256 + q / 256 * 256) * p w + r := by rw [← this]
    _ = _ := by rw [Int.add_mul]; omega
  rw [e, Int.add_mul_emod_self_right]
  refine (Int.emod_eq_of_lt ?_ ?_).symm
  ·have := Int.mul_nonneg (show 0 ≤ q % 256 by omega) (show 0 ≤ p w by omega); omega
  ·have : q % 256 * p w ≤ 255 * p w := Int.mul_le_mul_of_nonneg_right (by omega) (by omega)
   rw [p]; omega
theorem enc_num : ∀ {l : List Int}, Bys l → enc (num l) l.length = l
 | [], _ => rfl
 | c :: l, h => by
  have hc := h c (by simp)
  have hb : Bys l := fun x hx => h x (by simp [hx])
  have hl := num_in hb
  have hp := p_pos l.length
  simp only [num, List.length_cons, enc]
  rw [Int.add_comm (c * p l.length), enc_add, enc_num hb, Int.add_mul_ediv_right _ _ (by omega), Int.ediv_eq_zero_of_lt hl.1 hl.2]
  congr 1
  omega
theorem str_list (l : List Int) : (strOfNums l).toList = l.map (fun n => UInt8.ofNat n.toNat) := by
 rw [ByteArray.toList_eq]
 unfold strOfNums
 simp
theorem str_same {a b : List Int} (ha : Bys a) (hb : Bys b) : (strOfNums a).toList = (strOfNums b).toList ↔ a = b := by
 constructor
 ·intro h
  rw [str_list, str_list] at h
  induction a generalizing b with
  | nil => cases b with
   | nil => rfl
   | cons y b => simp at h
  | cons x a ih => cases b with
   | nil => simp at h
   | cons y b =>
    simp only [List.map_cons, List.cons.injEq] at h
    have hx := ha x (by simp)
    have hy := hb y (by simp)
    have e : x = y := by
     have := congrArg UInt8.toNat h.1
     simp only [UInt8.toNat_ofNat'] at this
     omega
    rw [e, ih (fun z hz => ha z (by simp [hz])) (fun z hz => hb z (by simp [hz])) h.2]
 ·intro h; rw [h]
theorem shl1 : ∀ m : Nat, m ≤ 7 → shl .i64 1 (8 * (m : Int)) = p m := by decide +kernel
theorem shl1h : ∀ m : Nat, m ≤ 6 → shl .i64 1 (8 * ((m : Int) + 1) - 1) = 128 * p m := by decide +kernel
theorem shrp (n : Int) {m : Nat} (h : m ≤ 7) : shr .i64 n (8 * (m : Int)) = n / p m := by
 unfold shr
 rw [p_pow, show (8 * (m : Int)).toNat = 8 * m by omega, Nat.min_eq_left (show 8 * m ≤ IntKind.i64.bits by show 8 * m ≤ 64; omega)]
theorem orc {a c : Int} (a0 : 0 ≤ a) (a1 : a < 281474976710656) (c0 : 0 ≤ c) (c1 : c ≤ 255) : Go.bits .or .i64 (wrap64 (a * 256)) (wrap64 c) = a * 256 + c := by
 rw [w64 (by omega) (by omega), w64 (x := c) (by omega) (by omega)]
 obtain ⟨x, rfl⟩ := Int.eq_ofNat_of_zero_le a0
 obtain ⟨y, rfl⟩ := Int.eq_ofNat_of_zero_le c0
 have e : x * 256 + y = x * 256 ||| y := by
  have := Nat.shiftLeft_add_eq_or_of_lt (i := 8) (b := y) (by omega) x
  rw [Nat.shiftLeft_eq] at this
  exact this
 unfold Go.bits
 simp only
 rw [show ((x : Int) * 256) = ((x * 256 : Nat) : Int) by simp, BitVec.ofInt_natCast, BitVec.ofInt_natCast, BitVec.toNat_or, BitVec.toNat_ofNat, BitVec.toNat_ofNat, Nat.mod_eq_of_lt (show x * 256 < 2 ^ IntKind.i64.bits by show x * 256 < 18446744073709551616; omega), Nat.mod_eq_of_lt (show y < 2 ^ IntKind.i64.bits by show y < 18446744073709551616; omega), ← e, IntKind.wrap_i64]
 omega
theorem put_loop (n : Int) (w : Nat) (hw : w ≤ 7) : ∀ (m : Nat) (pre : List Int), pre.length + m = w →
  Evl (fun k => wire_put.l0 k n (w : Int) (pre ++ List.replicate m 0) (w : Int) (pre.length : Int)) (pre ++ enc n m)
 | 0, pre, h => by
  refine Evl.stop fun k => ?_
  rw [wire_put.l0, if_neg (by omega)]
  rfl
 | m + 1, pre, h => by
  have ih := put_loop n w hw m (pre ++ [n / p m % 256]) (by simp; omega)
  rw [show pre ++ [n / p m % 256] ++ enc n m = pre ++ enc n (m + 1) by simp [enc]] at ih
  refine Evl.step (fun k => ?_) ih
  rw [wire_put.l0, if_pos (by omega), w64 (x := (w : Int) - 1) (by omega) (by omega), w64 (x := (w : Int) - 1 - (pre.length : Int)) (by omega) (by omega), show (w : Int) - 1 - (pre.length : Int) = (m : Int) by omega, w64 (x := 8 * (m : Int)) (by omega) (by omega), if_pos (by omega), if_pos (by omega), if_pos (by simp; omega), shrp n (by omega), w64 (x := (pre.length : Int) + 1) (by omega) (by omega)]
  have e : (pre ++ List.replicate (m + 1) 0).set (pre.length : Int).toNat (n / p m % 256) = (pre ++ [n / p m % 256]) ++ List.replicate m 0 := by
   rw [Int.toNat_natCast, List.set_append_right _ _ (Nat.le_refl _), Nat.sub_self, List.replicate_succ]
   simp
  rw [e]
  simp only [enc, List.append_assoc, List.singleton_append, List.length_append, List.length_singleton, Int.natCast_add, Int.natCast_one]
theorem put_evl (n : Int) {w : Nat} (hw : w ≤ 7) : Evl (fun k => wire_put.f k n (w : Int)) (enc n w) := by
 have h := put_loop n w hw w [] (by simp)
 refine Evl.congr (fun k => ?_) h
 rw [wire_put.f, if_pos (by omega), if_pos (by omega)]
 simp
theorem right_is (w : Int) : wire_right.f w = some (decide (1 ≤ w ∧ w ≤ 7)) := by
 unfold wire_right.f
 by_cases h1 : 1 ≤ w
 ·rw [if_pos h1]; simp [h1]
 ·rw [if_neg h1]; simp [h1]
def plainR (n w : Int) : List Int × Bool := if 1 ≤ w ∧ w ≤ 7 ∧ 0 ≤ n ∧ n < p w.toNat then (enc n w.toNat, true) else ([], false)
theorem plain_evl (n w : Int) : Evl (fun k => wire_Plain.f k n w) (plainR n w) := by
 unfold wire_Plain.f plainR
 rw [right_is]
 simp only [Option.bind_some]
 by_cases hw : 1 ≤ w ∧ w ≤ 7
 ·obtain ⟨m, rfl⟩ := Int.eq_ofNat_of_zero_le (show 0 ≤ w by omega)
  simp only [decide_eq_true hw, if_true, Int.toNat_natCast]
  rw [w64 (x := 8 * (m : Int)) (by omega) (by omega), shl1 m (by omega)]
  by_cases h0 : n < 0
  ·rw [if_neg (by omega)]
   simp only [if_pos h0]
   exact Evl.now fun _ => rfl
  ·simp only [if_neg h0, if_pos (show (0 : Int) ≤ 8 * (m : Int) by omega)]
   by_cases h1 : n ≥ p m
   ·rw [if_neg (by omega)]
    simp only [if_pos h1]
    exact Evl.now fun _ => rfl
   ·rw [if_pos (by omega)]
    simp only [if_neg h1]
    exact Evl.bind (put_evl n (by omega)) (Evl.now fun _ => rfl)
 ·rw [if_neg (by omega)]
  simp only [decide_eq_false hw]
  exact Evl.now fun _ => rfl
theorem rd_at {l : List Int} {i : Nat} (h : i < l.length) : rd l (i : Int) = l[i] := by
 unfold rd; simp [h]
theorem num_take {l : List Int} (hb : Bys l) {i : Nat} (h : i < l.length) : num (l.take (i + 1)) = num (l.take i) * 256 + l[i] ∧ 0 ≤ num (l.take i) ∧ num (l.take i) < p i := by
 have e : ∀ (a : List Int) (c : Int), num (a ++ [c]) = num a * 256 + c := by
  intro a c
  induction a with
  | nil => simp [num, p]
  | cons x a ih =>
   simp only [List.cons_append, num, ih, List.length_append, List.length_singleton, p]
   rw [Int.add_mul, Int.mul_comm 256 (p _), ← Int.mul_assoc]
   omega
 rw [List.take_succ_eq_append_getElem h, e]
 have hi := num_in (l := l.take i) (fun x hx => hb x (List.mem_of_mem_take hx))
 rw [List.length_take, Nat.min_eq_left (by omega)] at hi
 exact ⟨rfl, hi⟩
theorem num_loop {l : List Int} (hb : Bys l) (h7 : l.length ≤ 7) : ∀ (m i : Nat), i + m = l.length →
  Evl (fun k => wire_Number.l0 k (num (l.take i)) l (l.length : Int) (i : Int)) (num l)
 | 0, i, h => by
  refine Evl.stop fun k => ?_
  rw [wire_Number.l0, if_neg (by omega), List.take_of_length_le (by omega)]
 | m + 1, i, h => by
  have ih := num_loop hb h7 m (i + 1) (by omega)
  refine Evl.step (fun k => ?_) ih
  obtain ⟨e, e0, e1⟩ := num_take hb (show i < l.length by omega)
  have hp := p_le (show i ≤ 6 by omega)
  have h6 : p 6 = 281474976710656 := by decide
  have hc := hb l[i] (List.getElem_mem _)
  rw [wire_Number.l0, if_pos (by omega), if_pos (by omega), if_pos (by omega), rd_at (show i < l.length by omega), orc e0 (by omega) hc.1 hc.2, w64 (by omega) (by omega), ← e]
  rfl
def numR (l : List Int) : Int := if 1 ≤ l.length ∧ l.length ≤ 7 then num l else 0
theorem num_evl {l : List Int} (hb : Bys l) : Evl (fun k => wire_Number.f k l) (numR l) := by
 unfold wire_Number.f numR
 rw [right_is]
 simp only [Option.bind_some]
 by_cases h : 1 ≤ l.length ∧ l.length ≤ 7
 ·rw [if_pos h]
  simp only [decide_eq_true (show (1 : Int) ≤ (l.length : Int) ∧ (l.length : Int) ≤ 7 by omega), if_true]
  exact num_loop hb h.2 l.length 0 (by omega)
 ·rw [if_neg h]
  simp only [decide_eq_false (show ¬ ((1 : Int) ≤ (l.length : Int) ∧ (l.length : Int) ≤ 7) by omega)]
  exact Evl.now fun _ => rfl
theorem rnum_loop {l : List Int} (hb : Bys l) (h7 : l.length ≤ 7) : ∀ (m i : Nat), i + m = l.length →
  Evl (fun k => drumlineref1_Number.l0 k l (num (l.take i)) (i : Int)) (num l)
 | 0, i, h => by
  refine Evl.stop fun k => ?_
  rw [drumlineref1_Number.l0, if_neg (by omega), List.take_of_length_le (by omega)]
 | m + 1, i, h => by
  have ih := rnum_loop hb h7 m (i + 1) (by omega)
  refine Evl.step (fun k => ?_) ih
  obtain ⟨e, e0, e1⟩ := num_take hb (show i < l.length by omega)
  have hp := p_le (show i ≤ 6 by omega)
  have h6 : p 6 = 281474976710656 := by decide
  have hc := hb l[i] (List.getElem_mem _)
  rw [drumlineref1_Number.l0, if_pos (by omega), if_pos (by omega), rd_at (show i < l.length by omega), orc e0 (by omega) hc.1 hc.2, w64 (by omega) (by omega), ← e]
  rfl
theorem rnum_evl {l : List Int} (hb : Bys l) : Evl (fun k => drumlineref1_Number.f k l) (numR l) := by
 unfold drumlineref1_Number.f numR
 by_cases h : l.length ≤ 7
 ·simp only [if_neg (show ¬ (l.length : Int) > 7 by omega)]
  by_cases h0 : 1 ≤ l.length
  ·rw [if_pos ⟨h0, h⟩]
   exact rnum_loop hb h l.length 0 (by omega)
  ·rw [if_neg (by omega)]
   obtain rfl : l = [] := List.length_eq_zero_iff.1 (by omega)
   exact rnum_loop hb h 0 0 (by simp)
 ·rw [if_neg (by omega)]
  simp only [if_pos (show (l.length : Int) > 7 by omega)]
  exact Evl.now fun _ => rfl
def hf : Nat → Int
 | 0 => 0
 | m + 1 => 128 * p m
def signedR (n w : Int) : List Int × Bool := if 1 ≤ w ∧ w ≤ 7 ∧ -(hf w.toNat) ≤ n ∧ n < hf w.toNat then (enc n w.toNat, true) else ([], false)
theorem hf_le : ∀ m : Nat, m ≤ 6 → 128 * p m ≤ 36028797018963968 := by decide +kernel
theorem signed_evl (n w : Int) (n0 : -9223372036854775808 ≤ n) (n1 : n ≤ 9223372036854775807) : Evl (fun k => wire_Signed.f k n w) (signedR n w) := by
 unfold wire_Signed.f signedR
 rw [right_is]
 simp only [Option.bind_some]
 by_cases hw : 1 ≤ w ∧ w ≤ 7
 ·obtain ⟨m, rfl⟩ : ∃ m : Nat, w = (m : Int) + 1 := ⟨(w - 1).toNat, by omega⟩
  have hh := hf_le m (by omega)
  have hp := p_pos m
  rw [show ((m : Int) + 1).toNat = m + 1 by omega, show hf (m + 1) = 128 * p m from rfl, w64 (x := 8 * ((m : Int) + 1)) (by omega) (by omega), w64 (x := 8 * ((m : Int) + 1) - 1) (by omega) (by omega), shl1h m (by omega), w64 (x := -(128 * p m)) (by omega) (by omega)]
  simp only [decide_eq_true hw, if_true, if_pos (show (0 : Int) ≤ 8 * ((m : Int) + 1) - 1 by omega)]
  by_cases h0 : n < -(128 * p m)
  ·rw [if_neg (by omega)]
   simp only [if_pos h0]
   exact Evl.now fun _ => rfl
  ·simp only [if_neg h0]
   by_cases h1 : n ≥ 128 * p m
   ·rw [if_neg (by omega)]
    simp only [if_pos h1]
    exact Evl.now fun _ => rfl
   ·rw [if_pos (by omega)]
    simp only [if_neg h1]
    exact Evl.bind (put_evl n (w := m + 1) (by omega)) (Evl.now fun _ => rfl)
 ·rw [if_neg (by omega)]
  simp only [decide_eq_false hw]
  exact Evl.now fun _ => rfl
def offR (l : List Int) : Int := if 1 ≤ l.length ∧ l.length ≤ 7 then (if num l ≥ hf l.length then num l - p l.length else num l) else 0
theorem p_le7 : ∀ m : Nat, m ≤ 7 → p m ≤ 72057594037927936 := by decide +kernel
theorem off_evl {l : List Int} (hb : Bys l) : Evl (fun k => wire_Offset.f k l) (offR l) := by
 unfold wire_Offset.f
 refine Evl.bind (num_evl hb) ?_
 unfold numR offR
 by_cases h : 1 ≤ l.length ∧ l.length ≤ 7
 ·obtain ⟨m, hm⟩ : ∃ m, l.length = m + 1 := ⟨l.length - 1, by omega⟩
  have hi := num_in hb
  have hp := p_le7 l.length h.2
  rw [if_pos h, if_pos h]
  rw [w64 (x := 8 * (l.length : Int)) (by omega) (by omega), w64 (x := 8 * (l.length : Int) - 1) (by omega) (by omega), shl1 l.length h.2, show 8 * (l.length : Int) - 1 = 8 * ((m : Int) + 1) - 1 by omega, shl1h m (by omega), show hf l.length = 128 * p m by rw [hm]; rfl, w64 (x := num l - p l.length) (by omega) (by omega)]
  simp only [if_pos (show (l.length : Int) > 0 by omega), if_pos (show (l.length : Int) ≤ 7 by omega), if_pos (show (0 : Int) ≤ 8 * ((m : Int) + 1) - 1 by omega), if_pos (show (0 : Int) ≤ 8 * (l.length : Int) by omega)]
  by_cases h2 : num l ≥ 128 * p m
  ·simp only [if_pos h2]; exact Evl.now fun _ => rfl
  ·simp only [if_neg h2]; exact Evl.now fun _ => rfl
 ·rw [if_neg h, if_neg h]
  by_cases h0 : (l.length : Int) > 0
  ·simp only [if_pos h0, if_neg (show ¬ (l.length : Int) ≤ 7 by omega)]; exact Evl.now fun _ => rfl
  ·simp only [if_neg h0]; exact Evl.now fun _ => rfl
theorem roff_evl {l : List Int} (hb : Bys l) : Evl (fun k => drumlineref1_Offset.f k l) (offR l) := by
 have stop : Evl (fun k => drumlineref1_Offset.j0 k l true) 0 := Evl.stop fun k => by rw [drumlineref1_Offset.j0, if_pos rfl]
 unfold drumlineref1_Offset.f
 by_cases h : 1 ≤ l.length ∧ l.length ≤ 7
 ·have hi := num_in hb
  have hp := p_le7 l.length h.2
  simp only [if_neg (show ¬ (l.length : Int) = 0 by omega), decide_eq_false (show ¬ (l.length : Int) > 7 by omega)]
  refine Evl.succ ?_
  simp only [drumlineref1_Offset.j0, Bool.false_eq_true, if_false]
  refine Evl.bind (rnum_evl hb) ?_
  unfold numR offR
  rw [if_pos h, if_pos h]
  rw [w64 (x := 8 * (l.length : Int)) (by omega) (by omega), wu64 (x := 8 * (l.length : Int)) (by omega) (by omega), shl1 l.length h.2, w64 (x := num l - p l.length) (by omega) (by omega)]
  simp only [if_pos (show (0 : Int) < (l.length : Int) by omega), if_pos (show (0 : Int) ≤ 8 * (l.length : Int) by omega)]
  cases l with
  | nil => simp at h
  | cons c t =>
   have ht := num_in (l := t) (fun x hx => hb x (by simp [hx]))
   have hc := hb c (by simp)
   have hpt := p_pos t.length
   have e : rd (c :: t) 0 = c := rfl
   rw [e]
   have k1 : num (c :: t) = c * p t.length + num t := rfl
   have k2 : hf (c :: t).length = 128 * p t.length := rfl
   by_cases h2 : c ≥ 128
   ·have : 128 * p t.length ≤ c * p t.length := Int.mul_le_mul_of_nonneg_right h2 (by omega)
    rw [if_pos (show num (c :: t) ≥ hf (c :: t).length by omega)]
    simp only [if_pos h2]
    exact Evl.now fun _ => rfl
   ·have : c * p t.length ≤ 127 * p t.length := Int.mul_le_mul_of_nonneg_right (by omega) (by omega)
    rw [if_neg (show ¬ num (c :: t) ≥ hf (c :: t).length by omega)]
    simp only [if_neg h2]
    exact Evl.now fun _ => rfl
 ·rw [offR, if_neg h]
  by_cases h0 : (l.length : Int) = 0
  ·simp only [if_pos h0]; exact stop
  ·simp only [if_neg h0, decide_eq_true (show (l.length : Int) > 7 by omega)]; exact stop
end Go.Proofs.YtaaifdclojkdmaaGreatDoor.Wire
namespace Go.Proofs.YtaaifdclojkdmaaGreatDoor.MFr
open Go.RowKit Go.Proofs.YtaaifdclojkdmaaGreatDoorW.PrintWords Go.Proofs.YtaaifdclojkdmaaGreatDoorW.PrintLast Go.Proofs.YtaaifdclojkdmaaGreatDoorW.PrintMore
attribute [local go_sem] mp_u32s mp_u32m mp_u8s mp_u8m max2_int min2_int max_two min_two max_three min_three max_four min_four
set_option linter.unusedVariables false
set_option linter.unusedSimpArgs false
def frame_within.f (a0 : Int) (a1 : Int) (a2 : Int) : Option (Bool) := if a0 ≥ a1 then (some (decide (a0 ≤ a2))) else (some false)
set_option maxHeartbeats 8000000 in
set_option maxRecDepth 100000 in
theorem frame_within.calls (a0 : Int) (a1 : Int) (a2 : Int) (r : Bool) (w : World) (h : frame_within.f a0 a1 a2 = some r) :
  Calls Tryz.prog 48 #[.int .i64 a0, .int .i64 a1, .int .i64 a2] w fun e w' => e = .returned (.bool r) ∧ Drawn0 w w' := by
 have H : (if a0 ≥ a1 then (some (decide (a0 ≤ a2))) else (some false)) = some r := h
 clear h
 by_cases c4 : a0 ≥ a1
 ·rw [if_pos c4] at H
  have c4b0 : decide (a1 ≤ a0) = true := decide_eq_true c4
  clear c4
  obtain rfl := Option.some.inj H
  go_enter Tryz.func48, Tryz.ntmps48
  go_wp2
  go_ret
  exact ⟨by first | rfl | (simp; done) | (simp [*]; done), by repeat (first | exact Drawn0.refl _ | apply Drawn0.step)⟩
 ·rw [if_neg c4] at H
  have c4b0 : decide (a1 ≤ a0) = false := decide_eq_false c4
  clear c4
  obtain rfl := Option.some.inj H
  go_enter Tryz.func48, Tryz.ntmps48
  go_wp2
  go_ret
  exact ⟨by first | rfl | (simp; done) | (simp [*]; done), by repeat (first | exact Drawn0.refl _ | apply Drawn0.step)⟩
end Go.Proofs.YtaaifdclojkdmaaGreatDoor.MFr
set_option linter.unusedVariables false
set_option linter.unusedSimpArgs false
set_option maxRecDepth 100000
namespace Go.Proofs.YtaaifdclojkdmaaGreatDoor.MFr
open Go.RowKit Go.Proofs.YtaaifdclojkdmaaGreatDoorW.PrintWords Go.Proofs.YtaaifdclojkdmaaGreatDoorW.PrintLast Go.Proofs.YtaaifdclojkdmaaGreatDoorW.PrintMore Go.Proofs.YtaaifdclojkdmaaGreatDoor.Wire Go.Proofs.YtaaifdclojkdmaaGreatDoor.Evl
structure St where
 at_ : Int
 e : Int
 ea : Int
def failS (s : St) (a e : Int) : St := if s.e = 0 then ⟨s.at_, e, a⟩ else s
def enoughS (l : List Int) (s : St) (n : Int) : St := if s.e = 0 ∧ (l.length : Int) - s.at_ < n then ⟨s.at_, 2, s.at_⟩ else s
def cut (l : List Int) (a n : Int) : List Int := (l.take (a + n).toNat).drop a.toNat
def plainN (l : List Int) (s : St) (w : Int) : Int := if (enoughS l s w).e = 0 then numR (cut l s.at_ w) else 0
def plainS (l : List Int) (s : St) (w lo hi : Int) : St :=
 if (enoughS l s w).e = 0 then (if lo ≤ numR (cut l s.at_ w) ∧ numR (cut l s.at_ w) ≤ hi then ⟨s.at_ + w, 0, s.ea⟩ else ⟨s.at_ + w, 6, s.at_⟩) else enoughS l s w
def signedN (l : List Int) (s : St) (w : Int) : Int := if (enoughS l s w).e = 0 then offR (cut l s.at_ w) else 0
def signedS (l : List Int) (s : St) (w : Int) : St :=
 if (enoughS l s w).e = 0 then (if -1099511627776 ≤ offR (cut l s.at_ w) ∧ offR (cut l s.at_ w) ≤ 1099511627776 then ⟨s.at_ + w, 0, s.ea⟩ else ⟨s.at_ + w, 6, s.at_⟩) else enoughS l s w
theorem Er.keep {w w1 : World} {m : Nat} {v : Value} {e ea : Int} (h : Er w m v e ea) (k : ∀ i, m ≤ i → i < w.heap.size → w1.heap[i]? = w.heap[i]?) : Er w1 m v e ea := by
 rcases h with ⟨a, b⟩ | ⟨a, q, hq, b, hc⟩
 ·exact .inl ⟨a, b⟩
 ·exact .inr ⟨a, q, hq, b, (k q hq (blk_lt hc)).trans hc⟩
structure Fs (W : World) (base m g r0 : Nat) (A : Option Addr) (c : Nat) (l : List Int) (s : St) : Prop where
 rd : Rd W base r0 (.slice A l.length c) l s.at_ false
 er : ∃ ev, W.heap[g]? = some (.cells #[.pointer (some ⟨r0, 0, none⟩), ev] 75 (0, 0)) ∧ Er W m ev s.e s.ea
 hg : r0 < g
 gm : g < m
 ms : m ≤ W.heap.size
 a0 : 0 ≤ s.at_
 a1 : s.at_ ≤ l.length
structure Fa (w w' : World) (base m g r0 : Nat) (A : Option Addr) (c : Nat) (l : List Int) (s : St) : Prop where
 below : Below base w w'
 keep : KeepBut w w' g (some r0)
 fs : Fs w' base m g r0 A c l s
variable {base m g r0 : Nat} {A : Option Addr} {c : Nat} {l : List Int} {s s1 s2 : St}
theorem Fs.low {w : World} (H : Fs w base m g r0 A c l s) : base ≤ r0 := H.rd.2.2
theorem Fs.more {w w1 : World} (H : Fs w base m g r0 A c l s) (k : Below w.heap.size w w1) : Fs w1 base m g r0 A c l s := by
 obtain ⟨ev, hb, he⟩ := H.er
 exact ⟨⟨(k.block r0 (blk_lt H.rd.1)).trans H.rd.1, Kd.R_below H.rd.2.1 k, H.rd.2.2⟩, ⟨ev, (k.block g (blk_lt hb)).trans hb, he.keep fun i _ hi => k.block i hi⟩, H.hg, H.gm, Nat.le_trans H.ms k.size, H.a0, H.a1⟩
theorem Fa.same {w : World} (H : Fs w base m g r0 A c l s) : Fa w w base m g r0 A c l s := ⟨Below.refl _ _, KeepBut.refl _ _ _, H⟩
theorem Fa.then_ {w w1 w2 : World} (H : Fa w w1 base m g r0 A c l s1) (K : Fa w1 w2 base m g r0 A c l s2) : Fa w w2 base m g r0 A c l s2 := ⟨H.below.trans K.below, H.keep.trans K.keep (.inl rfl), K.fs⟩
theorem Fa.more {w w1 w2 : World} (H : Fa w w1 base m g r0 A c l s) (k : Below w1.heap.size w1 w2) : Fa w w2 base m g r0 A c l s :=
 ⟨H.below.trans (k.mono (by have := H.fs.low; have := blk_lt H.fs.rd.1; omega)), H.keep.trans (KeepBut.of_below k g (some r0)) (.inl rfl), H.fs.more k⟩
theorem Fa.drewN {w : World} (H : Fs w base m g r0 A c l s) (n : Nat) : Fa w (w.drewN n) base m g r0 A c l s := (Fa.same H).more (pw_below_drewN (Below.refl _ _) n)
theorem Fs.read {w w1 : World} {n : Int} (H : Fs w base m g r0 A c l s) (k : After w w1 base r0 (.slice A l.length c) l n false) (n0 : 0 ≤ n) (n1 : n ≤ l.length) : Fa w w1 base m g r0 A c l ⟨n, s.e, s.ea⟩ := by
 obtain ⟨ev, hb, he⟩ := H.er
 have hg := H.hg
 have gm := H.gm
 exact ⟨k.below, ⟨k.keep.1, fun i hi _ hr => k.keep.2 i hi (fun e => hr (by rw [e])) (by simp)⟩, ⟨k.rd, ⟨ev, k.keep.blk hb (by omega) (by simp), he.keep fun i hi hs => k.keep.2 i hs (by omega) (by simp)⟩, H.hg, H.gm, Nat.le_trans H.ms k.keep.1, n0, n1⟩⟩
theorem Fs.cells {w : World} (H : Fs w base m g r0 A c l s) : w.cell? ⟨g, 0, none⟩ = some (.pointer (some ⟨r0, 0, none⟩)) := by
 obtain ⟨ev, hb, _⟩ := H.er
 exact (blk_cell hb 0).trans rfl
theorem Fs.ok {w : World} (H : Fs w base m g r0 A c l s) (e : s.e = 0) : w.cell? ⟨g, 1, none⟩ = some .nilIface := by
 obtain ⟨ev, hb, he⟩ := H.er
 rcases he with ⟨_, rfl⟩ | ⟨k, _⟩
 ·exact (blk_cell hb 1).trans rfl
 ·exact absurd e k
theorem Fs.no {w : World} (H : Fs w base m g r0 A c l s) (e : s.e ≠ 0) : ∃ q, w.cell? ⟨g, 1, none⟩ = some (.iface 49 (.pointer (some ⟨q, 0, none⟩))) := by
 obtain ⟨ev, hb, he⟩ := H.er
 rcases he with ⟨k, _⟩ | ⟨_, q, _, rfl, _⟩
 ·exact absurd k e
 ·exact ⟨q, (blk_cell hb 1).trans rfl⟩
theorem fail_walk (at2 e : Int) (w : World) (H : Fs w base m g r0 A c l s) (he : e ≠ 0) :
  Calls Tryz.prog 33 #[.pointer (some ⟨g, 0, none⟩), .int .i64 at2, .int .i64 e] w fun ev w' => ev = .returned (.tuple #[]) ∧ Fa w w' base m g r0 A c l (failS s at2 e) := by
 by_cases h0 : s.e = 0
 ·obtain ⟨ev, hb, hE⟩ := H.er
  have hv : ev = .nilIface := by
   rcases hE with ⟨_, k⟩ | ⟨k, _⟩
   ·exact k
   ·exact absurd h0 k
  subst hv
  have hc := H.ok h0
  have hf := blk_frozen hb 1
  have hlt := blk_lt hb
  have hne : g ≠ w.heap.size := by omega
  have hne2 : w.heap.size ≠ g := by omega
  have hf2 : ∀ o : Obj, (w.alloc o).frozen? ⟨g, 1, none⟩ = false := fun o => by rw [World.frozen?_alloc_old _ _ ⟨g, 1, none⟩ hne]; exact hf
  have hc2 : ∀ o : Obj, (w.alloc o).cell? ⟨g, 1, none⟩ = some .nilIface := fun o => by rw [World.cell?_alloc_lt _ _ ⟨g, 1, none⟩ hlt]; exact hc
  have HH := Aside0.mk H
  have HB := Aside0.mk hb
  clear H hb hE hlt
  have HS : Aside0 (failS s at2 e = ⟨s.at_, e, at2⟩) := ⟨if_pos h0⟩
  rw [HS.out]
  clear h0
  go_enter Tryz.func33, Tryz.ntmps33
  go_wp2
  go_end0
  refine ⟨rfl, ?_⟩
  have hg := HH.out.hg
  have gm := HH.out.gm
  have ms := HH.out.ms
  have bh := HH.out.low
  have lt := blk_lt HB.out
  have kb : Below w.heap.size w (w.alloc (.cells #[.int .i64 at2, .iface 66 (.int .i64 e)] 53)) := (Below.refl w.heap.size w).alloc (Nat.le_refl _) _
  have F1 := HH.out.more kb
  have hn := heap_alloc_new w (.cells #[.int .i64 at2, .iface 66 (.int .i64 e)] 53)
  have hgb := (kb.block g lt).trans HB.out
  refine ⟨(kb.mono (by omega)).setCell (by show base ≤ g; omega) _, (KeepBut.of_below kb g (some r0)).set_ 1 _, ⟨⟨blk_far F1.rd.1 (by show r0 ≠ g; omega) _, Kd.R_far F1.rd.2.1 (fun k hk => by have : k < r0 := hk; show k ≠ g; omega) _, bh⟩, ⟨_, by simpa using blk_set hgb 1 _, .inr ⟨he, w.heap.size, ms, rfl, blk_far hn (by show w.heap.size ≠ g; omega) _⟩⟩, hg, gm, ?_, HH.out.a0, HH.out.a1⟩⟩
  have := F1.ms
  simpa [World.setCell] using this
 ·obtain ⟨q, hc⟩ := H.no h0
  have HH := Aside0.mk H
  clear H
  rw [show failS s at2 e = s from if_neg h0]
  clear h0
  go_enter Tryz.func33, Tryz.ntmps33
  go_wp2
  go_end0
  exact ⟨rfl, Fa.same HH.out⟩
theorem enough_walk (n : Int) (w : World) (H : Fs w base m g r0 A c l s) (hl : l.length ≤ 1000000) :
  Calls Tryz.prog 78 #[.pointer (some ⟨g, 0, none⟩), .int .i64 n] w fun ev w' => ev = .returned (.bool (decide ((enoughS l s n).e = 0))) ∧ Fa w w' base m g r0 A c l (enoughS l s n) := by
 have HH := Aside0.mk H
 have hp := H.cells
 by_cases h0 : s.e = 0
 ·have hc := H.ok h0
  by_cases hn : (l.length : Int) - s.at_ < n
  ·have hd : decide ((l.length : Int) - s.at_ < n) = true := decide_eq_true hn
   have HS : Aside0 (enoughS l s n = failS s s.at_ 2) := ⟨by unfold enoughS failS; rw [if_pos ⟨h0, hn⟩, if_pos h0]⟩
   have HE : Aside0 ((enoughS l s n).e ≠ 0) := ⟨by unfold enoughS; rw [if_pos ⟨h0, hn⟩]; simp⟩
   rw [decide_eq_false HE.out]
   clear H h0 hn
   go_enter Tryz.func78, Tryz.ntmps78
   go_wp2_with fail
   refine (leftR_walk w HH.out.rd HH.out.a0 HH.out.a1 hl).mono ?_
   rintro e w1 ⟨rfl, m1, rfl⟩
   have H1 := Aside0.mk (Fa.drewN HH.out m1)
   clear hp hc
   generalize w.drewN m1 = w1 at *
   have hp := H1.out.fs.cells
   go_wp2_with fail
   refine (atR_walk _ _ H1.out.fs.rd).mono ?_
   rintro e w2 ⟨rfl, rfl⟩
   go_wp2_with fail
   refine (fail_walk s.at_ 2 _ H1.out.fs (by decide)).mono ?_
   rintro e w2 ⟨rfl, hF⟩
   have H2 := Aside0.mk (H1.out.then_ hF)
   clear hF hp
   rw [← HS.out] at H2
   obtain ⟨q, hc⟩ := H2.out.fs.no HE.out
   go_wp2_with fail
   go_ret
   exact ⟨rfl, H2.out⟩
  ·have hd : decide ((l.length : Int) - s.at_ < n) = false := decide_eq_false hn
   have HS : Aside0 (enoughS l s n = s) := ⟨by unfold enoughS; rw [if_neg (fun k => hn k.2)]⟩
   rw [HS.out, decide_eq_true h0]
   have HE := Aside0.mk h0
   clear H h0 hn
   go_enter Tryz.func78, Tryz.ntmps78
   go_wp2_with fail
   refine (leftR_walk w HH.out.rd HH.out.a0 HH.out.a1 hl).mono ?_
   rintro e w1 ⟨rfl, m1, rfl⟩
   have H1 := Aside0.mk (Fa.drewN HH.out m1)
   clear hp hc
   generalize w.drewN m1 = w1 at *
   have hc := H1.out.fs.ok HE.out
   go_wp2_with fail
   go_ret
   exact ⟨rfl, H1.out⟩
 ·obtain ⟨q, hc⟩ := H.no h0
  have HS : Aside0 (enoughS l s n = s) := ⟨by unfold enoughS; rw [if_neg (fun k => h0 k.1)]⟩
  rw [HS.out, decide_eq_false h0]
  clear H h0
  go_enter Tryz.func78, Tryz.ntmps78
  go_wp2_with fail
  go_ret
  exact ⟨rfl, Fa.same HH.out⟩
theorem within_is (n lo hi : Int) : frame_within.f n lo hi = some (decide (lo ≤ n ∧ n ≤ hi)) := by
 unfold frame_within.f
 by_cases h1 : n ≥ lo
 ·rw [if_pos h1]; simp [show lo ≤ n from h1]
 ·rw [if_neg h1]; simp [show ¬ lo ≤ n from h1]
theorem bys_cut {l : List Int} {a n : Int} (h : Bys l) : Bys (cut l a n) := fun x hx => h x (List.mem_of_mem_take (List.mem_of_mem_drop hx))
theorem fd_cut (l : List Int) (a n : Int) (n1 : 1 ≤ n) (n7 : n ≤ 7) (hn : n ≤ (l.length : Int) - a) : fd l a false n = (cut l a n, a + n, false) := by
 unfold fd tk cut
 rw [if_pos ⟨n1, n7⟩, if_neg (by simp; omega)]
theorem enough_yes {l : List Int} {s : St} {n : Int} (h : (enoughS l s n).e = 0) : s.e = 0 ∧ n ≤ (l.length : Int) - s.at_ := by
 unfold enoughS at h
 split at h
 ·simp at h
 ·rename_i k
  refine ⟨h, ?_⟩
  rcases Int.lt_or_le ((l.length : Int) - s.at_) n with q | q
  ·exact absurd ⟨h, q⟩ k
  ·exact q
theorem enough_same {l : List Int} {s : St} {n : Int} (h : s.e = 0) (k : n ≤ (l.length : Int) - s.at_) : enoughS l s n = s := by
 unfold enoughS; rw [if_neg (by omega)]
theorem plainF (n : Int) (w : World) (H : Fs w base m g r0 A c l s) (hl : l.length ≤ 1000000) (hb : Bys l) (n1 : 1 ≤ n) (n7 : n ≤ 7) (hn : n ≤ (l.length : Int) - s.at_) :
  Calls Tryz.prog 30 #[.pointer (some ⟨r0, 0, none⟩), .int .i64 n] w fun ev w' => ev = .returned (.int .i64 (numR (cut l s.at_ n))) ∧ Fa w w' base m g r0 A c l ⟨s.at_ + n, s.e, s.ea⟩ := by
 obtain ⟨k, hk⟩ := (num_evl (bys_cut (a := s.at_) (n := n) hb)).some_
 have a0 := H.a0
 have a1 := H.a1
 have hf := fd_cut l s.at_ n n1 n7 hn
 have h := numberR_walk k n (numR (cut l s.at_ n)) w H.rd H.a0 H.a1 hl (by rw [hf]; exact hk)
 rw [hf] at h
 refine h.mono ?_
 rintro ev w' ⟨rfl, hA⟩
 exact ⟨rfl, H.read hA (by show 0 ≤ s.at_ + n; omega) (by show s.at_ + n ≤ l.length; omega)⟩
set_option maxHeartbeats 1000000 in
theorem plain_walk (n lo hi : Int) (w : World) (H : Fs w base m g r0 A c l s) (hl : l.length ≤ 1000000) (hb : Bys l) (n1 : 1 ≤ n) (n7 : n ≤ 7) :
  Calls Tryz.prog 56 #[.pointer (some ⟨g, 0, none⟩), .int .i64 n, .int .i64 lo, .int .i64 hi] w fun ev w' => ev = .returned (.int .i64 (plainN l s n)) ∧ Fa w w' base m g r0 A c l (plainS l s n lo hi) := by
 have HH := Aside0.mk H
 have hp := H.cells
 have HB := Aside0.mk hb
 have HN := Aside0.mk (And.intro n1 n7)
 have HE := enough_walk n w H hl
 by_cases he : (enoughS l s n).e = 0
 ·rw [decide_eq_true he] at HE
  obtain ⟨hs0, hsn⟩ : s.e = 0 ∧ n ≤ (l.length : Int) - s.at_ := enough_yes he
  have hes : enoughS l s n = s := enough_same hs0 hsn
  rw [hes] at HE
  have HX := Aside0.mk HE
  have HS := Aside0.mk (And.intro hs0 hsn)
  have HV : Aside0 (plainN l s n = numR (cut l s.at_ n)) := ⟨if_pos he⟩
  rw [HV.out]
  by_cases hr : lo ≤ numR (cut l s.at_ n) ∧ numR (cut l s.at_ n) ≤ hi
  ·have HT : Aside0 (plainS l s n lo hi = ⟨s.at_ + n, s.e, s.ea⟩) := ⟨by unfold plainS; rw [if_pos he, if_pos hr, hs0]⟩
   rw [HT.out]
   have HW := Aside0.mk (within_is (numR (cut l s.at_ n)) lo hi)
   rw [decide_eq_true hr] at HW
   clear H hb n1 n7 HE he hs0 hsn hes hr
   go_enter Tryz.func56, Tryz.ntmps56
   go_wp2_with fail
   refine (atR_walk _ _ HH.out.rd).mono ?_
   rintro e w1 ⟨rfl, rfl⟩
   go_wp2_with fail
   refine HX.out.mono ?_
   rintro e w1 ⟨rfl, hF⟩
   have H1 := Aside0.mk hF
   clear hF hp
   have hp := H1.out.fs.cells
   go_wp2_with fail
   refine (plainF n _ H1.out.fs hl HB.out HN.out.1 HN.out.2 HS.out.2).mono ?_
   rintro e w2 ⟨rfl, hF⟩
   have H2 := Aside0.mk (H1.out.then_ hF)
   clear hF hp
   obtain ⟨r, hr⟩ : ∃ r, numR (cut l s.at_ n) = r := ⟨_, rfl⟩
   rw [hr] at HW HV ⊢
   go_wp2_with fail
   refine (frame_within.calls _ _ _ true _ HW.out).mono ?_
   rintro e w3 ⟨rfl, hD⟩
   have H3 := Aside0.mk (H2.out.more hD.below)
   clear hD
   go_wp2_with fail
   go_ret
   subst hr
   exact ⟨rfl, H3.out⟩
  ·have HT : Aside0 (plainS l s n lo hi = failS ⟨s.at_ + n, s.e, s.ea⟩ s.at_ 6) := ⟨by unfold plainS failS; rw [if_pos he, if_neg hr, if_pos hs0]⟩
   rw [HT.out]
   have HW := Aside0.mk (within_is (numR (cut l s.at_ n)) lo hi)
   rw [decide_eq_false hr] at HW
   clear H hb n1 n7 HE he hs0 hsn hes hr
   go_enter Tryz.func56, Tryz.ntmps56
   go_wp2_with fail
   refine (atR_walk _ _ HH.out.rd).mono ?_
   rintro e w1 ⟨rfl, rfl⟩
   go_wp2_with fail
   refine HX.out.mono ?_
   rintro e w1 ⟨rfl, hF⟩
   have H1 := Aside0.mk hF
   clear hF hp
   have hp := H1.out.fs.cells
   go_wp2_with fail
   refine (plainF n _ H1.out.fs hl HB.out HN.out.1 HN.out.2 HS.out.2).mono ?_
   rintro e w2 ⟨rfl, hF⟩
   have H2 := Aside0.mk (H1.out.then_ hF)
   clear hF hp
   obtain ⟨r, hr⟩ : ∃ r, numR (cut l s.at_ n) = r := ⟨_, rfl⟩
   rw [hr] at HW HV ⊢
   go_wp2_with fail
   refine (frame_within.calls _ _ _ false _ HW.out).mono ?_
   rintro e w3 ⟨rfl, hD⟩
   have H3 := Aside0.mk (H2.out.more hD.below)
   clear hD
   go_wp2_with fail
   refine (fail_walk s.at_ 6 _ H3.out.fs (by decide)).mono ?_
   rintro e w4 ⟨rfl, hF⟩
   have H4 := Aside0.mk (H3.out.then_ hF)
   clear hF
   go_wp2_with fail
   go_ret
   subst hr
   exact ⟨rfl, H4.out⟩
 ·rw [decide_eq_false he] at HE
  have HX := Aside0.mk HE
  rw [show plainN l s n = 0 from if_neg he, show plainS l s n lo hi = enoughS l s n from if_neg he]
  clear H hb n1 n7 HE he
  go_enter Tryz.func56, Tryz.ntmps56
  go_wp2_with fail
  refine (atR_walk _ _ HH.out.rd).mono ?_
  rintro e w1 ⟨rfl, rfl⟩
  go_wp2_with fail
  refine HX.out.mono ?_
  rintro e w1 ⟨rfl, hF⟩
  have H1 := Aside0.mk hF
  clear hF hp
  go_wp2_with fail
  go_ret
  exact ⟨rfl, H1.out⟩
theorem signedF (n : Int) (w : World) (H : Fs w base m g r0 A c l s) (hl : l.length ≤ 1000000) (hb : Bys l) (n1 : 1 ≤ n) (n7 : n ≤ 7) (hn : n ≤ (l.length : Int) - s.at_) :
  Calls Tryz.prog 86 #[.pointer (some ⟨r0, 0, none⟩), .int .i64 n] w fun ev w' => ev = .returned (.int .i64 (offR (cut l s.at_ n))) ∧ Fa w w' base m g r0 A c l ⟨s.at_ + n, s.e, s.ea⟩ := by
 obtain ⟨k, hk⟩ := (off_evl (bys_cut (a := s.at_) (n := n) hb)).some_
 have a0 := H.a0
 have a1 := H.a1
 have hf := fd_cut l s.at_ n n1 n7 hn
 have h := offsetR_walk k n (offR (cut l s.at_ n)) w H.rd H.a0 H.a1 hl (by rw [hf]; exact hk)
 rw [hf] at h
 refine h.mono ?_
 rintro ev w' ⟨rfl, hA⟩
 exact ⟨rfl, H.read hA (by show 0 ≤ s.at_ + n; omega) (by show s.at_ + n ≤ l.length; omega)⟩
set_option maxHeartbeats 1000000 in
theorem signed_walk (n : Int) (w : World) (H : Fs w base m g r0 A c l s) (hl : l.length ≤ 1000000) (hb : Bys l) (n1 : 1 ≤ n) (n7 : n ≤ 7) :
  Calls Tryz.prog 79 #[.pointer (some ⟨g, 0, none⟩), .int .i64 n] w fun ev w' => ev = .returned (.int .i64 (signedN l s n)) ∧ Fa w w' base m g r0 A c l (signedS l s n) := by
 have HH := Aside0.mk H
 have hp := H.cells
 have HB := Aside0.mk hb
 have HN := Aside0.mk (And.intro n1 n7)
 have HE := enough_walk n w H hl
 by_cases he : (enoughS l s n).e = 0
 ·rw [decide_eq_true he] at HE
  obtain ⟨hs0, hsn⟩ : s.e = 0 ∧ n ≤ (l.length : Int) - s.at_ := enough_yes he
  have hes : enoughS l s n = s := enough_same hs0 hsn
  rw [hes] at HE
  have HX := Aside0.mk HE
  have HS := Aside0.mk (And.intro hs0 hsn)
  have HV : Aside0 (signedN l s n = offR (cut l s.at_ n)) := ⟨if_pos he⟩
  rw [HV.out]
  by_cases hr : (-1099511627776) ≤ offR (cut l s.at_ n) ∧ offR (cut l s.at_ n) ≤ 1099511627776
  ·have HT : Aside0 (signedS l s n = ⟨s.at_ + n, s.e, s.ea⟩) := ⟨by unfold signedS; rw [if_pos he, if_pos hr, hs0]⟩
   rw [HT.out]
   have HW := Aside0.mk (within_is (offR (cut l s.at_ n)) (-1099511627776) 1099511627776)
   rw [decide_eq_true hr] at HW
   clear H hb n1 n7 HE he hs0 hsn hes hr
   go_enter Tryz.func79, Tryz.ntmps79
   go_wp2_with fail
   refine (atR_walk _ _ HH.out.rd).mono ?_
   rintro e w1 ⟨rfl, rfl⟩
   go_wp2_with fail
   refine HX.out.mono ?_
   rintro e w1 ⟨rfl, hF⟩
   have H1 := Aside0.mk hF
   clear hF hp
   have hp := H1.out.fs.cells
   go_wp2_with fail
   refine (signedF n _ H1.out.fs hl HB.out HN.out.1 HN.out.2 HS.out.2).mono ?_
   rintro e w2 ⟨rfl, hF⟩
   have H2 := Aside0.mk (H1.out.then_ hF)
   clear hF hp
   obtain ⟨r, hr⟩ : ∃ r, offR (cut l s.at_ n) = r := ⟨_, rfl⟩
   rw [hr] at HW HV ⊢
   go_wp2_with fail
   refine (frame_within.calls _ _ _ true _ HW.out).mono ?_
   rintro e w3 ⟨rfl, hD⟩
   have H3 := Aside0.mk (H2.out.more hD.below)
   clear hD
   go_wp2_with fail
   go_ret
   subst hr
   exact ⟨rfl, H3.out⟩
  ·have HT : Aside0 (signedS l s n = failS ⟨s.at_ + n, s.e, s.ea⟩ s.at_ 6) := ⟨by unfold signedS failS; rw [if_pos he, if_neg hr, if_pos hs0]⟩
   rw [HT.out]
   have HW := Aside0.mk (within_is (offR (cut l s.at_ n)) (-1099511627776) 1099511627776)
   rw [decide_eq_false hr] at HW
   clear H hb n1 n7 HE he hs0 hsn hes hr
   go_enter Tryz.func79, Tryz.ntmps79
   go_wp2_with fail
   refine (atR_walk _ _ HH.out.rd).mono ?_
   rintro e w1 ⟨rfl, rfl⟩
   go_wp2_with fail
   refine HX.out.mono ?_
   rintro e w1 ⟨rfl, hF⟩
   have H1 := Aside0.mk hF
   clear hF hp
   have hp := H1.out.fs.cells
   go_wp2_with fail
   refine (signedF n _ H1.out.fs hl HB.out HN.out.1 HN.out.2 HS.out.2).mono ?_
   rintro e w2 ⟨rfl, hF⟩
   have H2 := Aside0.mk (H1.out.then_ hF)
   clear hF hp
   obtain ⟨r, hr⟩ : ∃ r, offR (cut l s.at_ n) = r := ⟨_, rfl⟩
   rw [hr] at HW HV ⊢
   go_wp2_with fail
   refine (frame_within.calls _ _ _ false _ HW.out).mono ?_
   rintro e w3 ⟨rfl, hD⟩
   have H3 := Aside0.mk (H2.out.more hD.below)
   clear hD
   go_wp2_with fail
   refine (fail_walk s.at_ 6 _ H3.out.fs (by decide)).mono ?_
   rintro e w4 ⟨rfl, hF⟩
   have H4 := Aside0.mk (H3.out.then_ hF)
   clear hF
   go_wp2_with fail
   go_ret
   subst hr
   exact ⟨rfl, H4.out⟩
 ·rw [decide_eq_false he] at HE
  have HX := Aside0.mk HE
  rw [show signedN l s n = 0 from if_neg he, show signedS l s n = enoughS l s n from if_neg he]
  clear H hb n1 n7 HE he
  go_enter Tryz.func79, Tryz.ntmps79
  go_wp2_with fail
  refine (atR_walk _ _ HH.out.rd).mono ?_
  rintro e w1 ⟨rfl, rfl⟩
  go_wp2_with fail
  refine HX.out.mono ?_
  rintro e w1 ⟨rfl, hF⟩
  have H1 := Aside0.mk hF
  clear hF hp
  go_wp2_with fail
  go_ret
  exact ⟨rfl, H1.out⟩
theorem small_walk (lo hi : Int) (w : World) (H : Fs w base m g r0 A c l s) (hl : l.length ≤ 1000000) (hb : Bys l) :
  Calls Tryz.prog 55 #[.pointer (some ⟨g, 0, none⟩), .int .i64 lo, .int .i64 hi] w fun ev w' => ev = .returned (.int .i64 (plainN l s 1)) ∧ Fa w w' base m g r0 A c l (plainS l s 1 lo hi) := by
 have HX := Aside0.mk (plain_walk 1 lo hi w H hl hb (by decide) (by decide))
 clear H hb
 go_enter Tryz.func55, Tryz.ntmps55
 go_wp2_with fail
 refine HX.out.mono ?_
 rintro e w1 ⟨rfl, hF⟩
 have H1 := Aside0.mk hF
 clear hF
 go_wp2_with fail
 go_ret
 exact ⟨rfl, H1.out⟩
end Go.Proofs.YtaaifdclojkdmaaGreatDoor.MFr
set_option linter.unusedVariables false
set_option linter.unusedSimpArgs false
set_option maxRecDepth 100000
namespace Go.Proofs.YtaaifdclojkdmaaGreatDoor.MFr
open Go.RowKit Go.Proofs.YtaaifdclojkdmaaGreatDoorW.PrintWords Go.Proofs.YtaaifdclojkdmaaGreatDoorW.PrintLast Go.Proofs.YtaaifdclojkdmaaGreatDoorW.PrintMore Go.Proofs.YtaaifdclojkdmaaGreatDoor.Wire Go.Proofs.YtaaifdclojkdmaaGreatDoor.Evl
theorem hinfoI : (Tryz.prog.info? 3).map (fun i => (i.zero, i.size, i.bytes)) = some (some (.int .i64 0), 1, 8) := by kernel_rfl
variable {base m g r0 : Nat} {A : Option Addr} {c : Nat} {l : List Int} {s s1 s2 : St}
theorem Er.lower {w : World} {m m' : Nat} {v : Value} {e ea : Int} (h : Er w m' v e ea) (k : m ≤ m') : Er w m v e ea := by
 rcases h with ⟨a, b⟩ | ⟨a, q, hq, b, hc⟩
 ·exact .inl ⟨a, b⟩
 ·exact .inr ⟨a, q, Nat.le_trans k hq, b, hc⟩
theorem Fs.raise {w : World} (H : Fs w base m g r0 A c l s) (h0 : s.e = 0) : Fs w base w.heap.size g r0 A c l s := by
 obtain ⟨ev, hb, he⟩ := H.er
 rcases he with ⟨_, k⟩ | ⟨k, _⟩
 ·exact ⟨H.rd, ⟨ev, hb, .inl ⟨h0, k⟩⟩, H.hg, blk_lt hb, Nat.le_refl _, H.a0, H.a1⟩
 ·exact absurd h0 k
theorem Fs.lower {w : World} {m' : Nat} (H : Fs w base m' g r0 A c l s) (k : m ≤ m') (hg : g < m) : Fs w base m g r0 A c l s := by
 obtain ⟨ev, hb, he⟩ := H.er
 exact ⟨H.rd, ⟨ev, hb, he.lower k⟩, H.hg, hg, Nat.le_trans k H.ms, H.a0, H.a1⟩
theorem Fa.lower {w W : World} {m' : Nat} (H : Fa w W base m' g r0 A c l s) (k : m ≤ m') (hg : g < m) : Fa w W base m g r0 A c l s := ⟨H.below, H.keep, H.fs.lower k hg⟩
theorem Fa.grown {w W W1 : World} {m' : Nat} {row : Option Nat} (H : Fa w W base m g r0 A c l s1) (HF : Fs W base m' g r0 A c l s) (hg : W.grownBy W1 row) (hr : ∀ k, row = some k → w.heap.size ≤ k ∧ k < m') (hm : m ≤ w.heap.size) (hmm : m ≤ m') : Fa w W1 base m g r0 A c l s := by
 have h1 := H.fs.gm
 have h2 := H.fs.hg
 have h3 := H.fs.low
 have h4 := H.keep.1
 have kb : ∀ i, i < W.heap.size → (i < w.heap.size ∨ m' ≤ i) → W1.heap[i]? = W.heap[i]? := fun i hi hd => hg.block i hi (fun e => by have := hr i e.symm; omega)
 obtain ⟨ev, hb, he⟩ := HF.er
 refine ⟨H.below.grown hg (by omega) (fun k e => by have := hr k e; omega), ⟨Nat.le_trans h4 hg.size, fun i hi a b => (kb i (by omega) (.inl hi)).trans (H.keep.2 i hi a b)⟩, ⟨⟨(kb r0 (by omega) (.inl (by omega))).trans HF.rd.1, Kd.R_step HF.rd.2.1 (fun k hk hlt => by have : k < r0 := hk; exact kb k hlt (.inl (by omega))), HF.rd.2.2⟩, ⟨ev, (kb g (by omega) (.inl (by omega))).trans hb, (he.keep fun i hi hs => kb i hs (.inr hi)).lower hmm⟩, HF.hg, h1, Nat.le_trans hm (Nat.le_trans h4 hg.size), HF.a0, HF.a1⟩⟩
theorem cut_len (l : List Int) (a n : Int) (h0 : 0 ≤ a) (hn : 0 ≤ n) (h : n ≤ (l.length : Int) - a) : ((cut l a n).length : Int) = n := by
 unfold cut
 rw [List.length_drop, List.length_take]; omega
theorem plainN1 (hb : Bys l) (h0 : 0 ≤ s.at_) : 0 ≤ plainN l s 1 ∧ plainN l s 1 ≤ 255 := by
 unfold plainN
 split
 ·rename_i h
  have hc := cut_len l s.at_ 1 h0 (by decide) (enough_yes h).2
  have := num_in (bys_cut (a := s.at_) (n := 1) hb)
  unfold numR
  rw [if_pos (by omega)]
  rw [show (cut l s.at_ 1).length = 1 by omega] at this
  have hp : p 1 = 256 := by decide
  omega
 ·omega
theorem plainS_e0 {n lo hi : Int} (h : (plainS l s n lo hi).e = 0) : s.e = 0 ∧ n ≤ (l.length : Int) - s.at_ ∧ lo ≤ plainN l s n ∧ plainN l s n ≤ hi ∧ plainS l s n lo hi = ⟨s.at_ + n, 0, s.ea⟩ ∧ plainN l s n = numR (cut l s.at_ n) := by
 unfold plainS at h ⊢
 unfold plainN
 split at h
 ·rename_i k
  split at h
  ·rename_i r
   rw [if_pos k, if_pos k, if_pos r]
   exact ⟨(enough_yes k).1, (enough_yes k).2, r.1, r.2, rfl, rfl⟩
  ·simp at h
 ·rename_i k
  exact absurd h k
def agesR (l : List Int) : Nat → St → List Int → List Int × St
 | 0, s, acc => (acc, s)
 | n + 1, s, acc => if s.e = 0 then agesR l n (plainS l s 1 0 201) (acc ++ [plainN l s 1]) else (acc, s)
def agesF (l : List Int) (s : St) : List Int × St := agesR l (plainN l s 1).toNat (plainS l s 1 1 6) []
def bodyF (l : List Int) (s : St) : List Int × St :=
 if (enoughS l (plainS l s 1 0 24) (plainN l s 1)).e = 0 then (cut l (plainS l s 1 0 24).at_ (plainN l s 1), ⟨(plainS l s 1 0 24).at_ + plainN l s 1, 0, (plainS l s 1 0 24).ea⟩) else ([], enoughS l (plainS l s 1 0 24) (plainN l s 1))
set_option maxHeartbeats 4000000 in
theorem ages_walk (w : World) (H : Fs w base m g r0 A c l s) (hl : l.length ≤ 1000000) (hb : Bys l) :
  Calls Tryz.prog 57 #[.pointer (some ⟨g, 0, none⟩)] w fun ev w' => ∃ v, ev = .returned v ∧ (Kd.int .i64).R 3 w' w.heap.size (fun _ => True) v (agesF l s).1 ∧ Fa w w' base m g r0 A c l (agesF l s).2 := by
 have HH := Aside0.mk H
 have HB := Aside0.mk hb
 have HP := Aside0.mk (plainN1 (s := s) hb H.a0)
 have HS := Aside0.mk (small_walk 1 6 w H hl hb)
 have HZ : Aside0 (agesF l s = agesR l (plainN l s 1).toNat (plainS l s 1 1 6) []) := ⟨rfl⟩
 clear H hb
 generalize agesF l s = Z at *
 generalize plainN l s 1 = n0 at *
 generalize plainS l s 1 1 6 = s0 at *
 go_enter Tryz.func57, Tryz.ntmps57
 go_wp2_with fail
 refine HS.out.mono ?_
 rintro e w1 ⟨rfl, hF⟩
 have H1 := Aside0.mk hF
 clear hF HS
 go_wp2_with fail
 go_loopg [3, 4] (n0.toNat + 1) (fun kq v3 v4 w' => ∃ (n : Nat) (i : Int) (acc : List Int) (s' : St) (vv : Value), vv = v3 ∧ v4 = .int .i64 i ∧ Aside0 (i = n ∧ kq = n + 1 ∧ acc.length + n = n0.toNat) ∧ Aside0 ((Kd.int .i64).R 3 w' w.heap.size (fun _ => True) v3 acc) ∧ Aside0 (Fa w w' base m g r0 A c l s') ∧ Aside0 (Z = agesR l n s' acc))
 case atStart => exact ⟨n0.toNat, n0, [], s0, _, rfl, rfl, ⟨by have := HP.out; omega, rfl, by simp⟩, ⟨Kd.R_nil _ _ _ _ _⟩, H1, HZ⟩
 case round =>
  clear H1 HZ
  obtain ⟨n, i, acc, s', vr3, rfl, rfl, HK, HR, HF, HZ⟩ := hrel
  cases n with
  | zero =>
   have hd : decide (0 < i) = false := decide_eq_false (by have := HK.out.1; omega)
   go_wp2_with fail
   go_ret
   rw [HZ.out]
   exact ⟨_, rfl, HR.out, HF.out⟩
  | succ n =>
   have hd : decide (0 < i) = true := decide_eq_true (by have := HK.out.1; omega)
   by_cases h0 : s'.e = 0
   ·have hc := HF.out.fs.ok h0
    have HE := Aside0.mk h0
    have HS := Aside0.mk (small_walk 0 201 wr (HF.out.fs.raise h0) hl HB.out)
    have HX : Aside0 (Z = agesR l n (plainS l s' 1 0 201) (acc ++ [plainN l s' 1])) := ⟨by rw [HZ.out]; exact if_pos h0⟩
    clear h0 HZ
    generalize plainN l s' 1 = x at *
    have hw : wrap64 (i - 1) = i - 1 := by have := HK.out; have := HP.out; unfold wrap64; omega
    cases gk with
    | zero => exact absurd HK.out (by omega)
    | succ k1 =>
    go_wp2_with fail
    refine HS.out.mono ?_
    rintro e w2 ⟨rfl, hF2⟩
    have HF2 := Aside0.mk hF2
    have HR2 : Aside0 ((Kd.int .i64).R 3 w2 w.heap.size (fun k => w.heap.size ≤ k ∧ k < wr.heap.size) vr3 acc) := ⟨Kd.R_mono (Kd.R_step (Kd.R_bound HR.out) (fun k hk hlt => hF2.keep.2 k hlt (by have := HF.out.fs.gm; have := HH.out.ms; have := hk.2.1; omega) (by have := HF.out.fs.gm; have := HF.out.fs.hg; have := HH.out.ms; have := hk.2.1; intro e; injection e with e; omega))) (fun k hk => ⟨hk.2.1, hk.2.2.1⟩)⟩
    clear hF2 hc HS
    go_wp2_with (first | ((with_reducible refine gate_builtin (b := .append) (xs := #[.tmp 18, .tmp 21]) rfl ?_); at_builtin; refine Kd.R_append (Kd.int .i64) (w0 := w2) w.heap.size rfl (.tmp 18) (.tmp 21) 24 3 (.int .i64 0) 8 rfl Tryz.underlying24 hinfoI rfl (by decide) (by omega) vr3 acc x [.int .i64 x] (fun _ => True) (fun _ => False) rfl rfl ?aP (fun _ hk => hk.elim) (fun _ _ => trivial) ?aO (Below.refl _ _) ?aS ?aL ?_; (case aP => exact rfl); (case aO => exact Kd.R_mono HR2.out (fun _ _ => trivial)); (case aS => exact Nat.le_trans HF.out.keep.1 HF2.out.keep.1); (case aL => have := HK.out; have := HP.out; omega); intro v1 w3 ho hb hg hat; have HO := Aside0.mk ho; have HG := Aside0.mk hg; clear ho hb hg hat))
    have HF3 := Aside0.mk (Fa.grown (m' := wr.heap.size) (HF.out.then_ (HF2.out.lower (Nat.le_trans HH.out.ms HF.out.keep.1) HH.out.gm)) HF2.out.fs HG.out (fun k e => HR2.out.1 k e) HH.out.ms (Nat.le_trans HH.out.ms HF.out.keep.1))
    go_roundg k1
    case measure => have := HK.out; omega
    case rel => exact ⟨n, i - 1, acc ++ [x], _, _, rfl, (by first | rfl | rw [hw]), ⟨by have := HK.out; simp only [List.length_append, List.length_cons, List.length_nil]; omega⟩, HO, HF3, HX⟩
   ·obtain ⟨q, hc⟩ := HF.out.fs.no h0
    have HX : Aside0 (Z = (acc, s')) := ⟨by rw [HZ.out]; exact if_neg h0⟩
    clear h0 HZ
    go_wp2_with fail
    go_ret
    rw [HX.out]
    exact ⟨_, rfl, HR.out, HF.out⟩
end Go.Proofs.YtaaifdclojkdmaaGreatDoor.MFr
namespace Go.Proofs.YtaaifdclojkdmaaGreatDoor.MFr
open Go.RowKit Go.Proofs.YtaaifdclojkdmaaGreatDoorW.PrintWords Go.Proofs.YtaaifdclojkdmaaGreatDoorW.PrintLast Go.Proofs.YtaaifdclojkdmaaGreatDoorW.PrintMore
attribute [local go_sem] mp_u32s mp_u32m mp_u8s mp_u8m max2_int min2_int max_two min_two max_three min_three max_four min_four
set_option linter.unusedVariables false
set_option linter.unusedSimpArgs false
def drumlineref1_within.f (a0 : Int) (a1 : Int) (a2 : Int) : Option (Bool) := if a0 ≥ a1 then (some (decide (a0 ≤ a2))) else (some false)
set_option maxHeartbeats 8000000 in
set_option maxRecDepth 100000 in
theorem drumlineref1_within.calls (a0 : Int) (a1 : Int) (a2 : Int) (r : Bool) (w : World) (h : drumlineref1_within.f a0 a1 a2 = some r) :
  Calls Tryz.prog 63 #[.int .i64 a0, .int .i64 a1, .int .i64 a2] w fun e w' => e = .returned (.bool r) ∧ Drawn0 w w' := by
 have H : (if a0 ≥ a1 then (some (decide (a0 ≤ a2))) else (some false)) = some r := h
 clear h
 by_cases c4 : a0 ≥ a1
 ·rw [if_pos c4] at H
  have c4b0 : decide (a1 ≤ a0) = true := decide_eq_true c4
  clear c4
  obtain rfl := Option.some.inj H
  go_enter Tryz.func63, Tryz.ntmps63
  go_wp2
  go_ret
  exact ⟨by first | rfl | (simp; done) | (simp [*]; done), by repeat (first | exact Drawn0.refl _ | apply Drawn0.step)⟩
 ·rw [if_neg c4] at H
  have c4b0 : decide (a1 ≤ a0) = false := decide_eq_false c4
  clear c4
  obtain rfl := Option.some.inj H
  go_enter Tryz.func63, Tryz.ntmps63
  go_wp2
  go_ret
  exact ⟨by first | rfl | (simp; done) | (simp [*]; done), by repeat (first | exact Drawn0.refl _ | apply Drawn0.step)⟩
def drumlineref1_Time.f (a0 : Int) : Option (Bool) := if a0 ≥ (-1099511627776) then (some (decide (a0 ≤ 1099511627776))) else (some false)
set_option maxHeartbeats 8000000 in
set_option maxRecDepth 100000 in
theorem drumlineref1_Time.calls (a0 : Int) (r : Bool) (w : World) (h : drumlineref1_Time.f a0 = some r) :
  Calls Tryz.prog 65 #[.int .i64 a0] w fun e w' => e = .returned (.bool r) ∧ Drawn0 w w' := by
 have H : (if a0 ≥ (-1099511627776) then (some (decide (a0 ≤ 1099511627776))) else (some false)) = some r := h
 clear h
 by_cases c2 : a0 ≥ (-1099511627776)
 ·rw [if_pos c2] at H
  have c2b0 : decide ((-1099511627776) ≤ a0) = true := decide_eq_true c2
  clear c2
  obtain rfl := Option.some.inj H
  go_enter Tryz.func65, Tryz.ntmps65
  go_wp2
  go_ret
  exact ⟨by first | rfl | (simp; done) | (simp [*]; done), by repeat (first | exact Drawn0.refl _ | apply Drawn0.step)⟩
 ·rw [if_neg c2] at H
  have c2b0 : decide ((-1099511627776) ≤ a0) = false := decide_eq_false c2
  clear c2
  obtain rfl := Option.some.inj H
  go_enter Tryz.func65, Tryz.ntmps65
  go_wp2
  go_ret
  exact ⟨by first | rfl | (simp; done) | (simp [*]; done), by repeat (first | exact Drawn0.refl _ | apply Drawn0.step)⟩
end Go.Proofs.YtaaifdclojkdmaaGreatDoor.MFr
