/- Texts of this claim, laid together by a program (wip/e/merge2.py): MFrx21, HRf, MFrx60, MFrx64, MFrx71, HQr, He, MFrx48, MFrx49. -/
import Derived.Test.YtaaifdclojkdmaaGreatDoorZFz2
import Derived.Deep.RegionLaw
import Derived.LaidEql
import Derived.Stop.Asserts
import Derived.RowKitTokens
namespace Go.Proofs.YtaaifdclojkdmaaGreatDoor.MFr
open Go.RowKit Go.Proofs.YtaaifdclojkdmaaGreatDoorW.PrintWords Go.Proofs.YtaaifdclojkdmaaGreatDoorW.PrintLast Go.Proofs.YtaaifdclojkdmaaGreatDoorW.PrintMore
attribute [local go_sem] mp_u32s mp_u32m mp_u8s mp_u8m max2_int min2_int max_two min_two max_three min_three max_four min_four
set_option linter.unusedVariables false
set_option linter.unusedSimpArgs false
def wire_Offset.f (k : Nat) (l0 : List Int) : Option (Int) := (wire_Number.f k l0).bind fun t136 => (if (l0.length : Int) > 0 then (if (l0.length : Int) ≤ 7 then (if 0 ≤ (wrap64 ((wrap64 (8 * (l0.length : Int))) - 1)) then (if t136 ≥ (shl .i64 1 (wrap64 ((wrap64 (8 * (l0.length : Int))) - 1))) then (if 0 ≤ (wrap64 (8 * (l0.length : Int))) then (some (wrap64 (t136 - (shl .i64 1 (wrap64 (8 * (l0.length : Int))))))) else (none)) else (some t136)) else (none)) else (some t136)) else (some t136))
theorem wire_Offset.mono : ∀ a0 k, LeO (wire_Offset.f k a0) (wire_Offset.f (k + 1) a0) := by
 intro a0 k
 unfold wire_Offset.f
 repeat' first
   | (with_reducible exact wire_Number.mono _ _)
   | (with_reducible exact LeO.refl _)
   | (with_reducible exact LeO.none _)
   | (with_reducible refine LeO.ite ?_ ?_)
   | (with_reducible refine LeO.bind ?_ (fun _ => ?_))
   | exact wire_Number.mono _ _
   | exact LeO.none _
   | refine LeO.ite ?_ ?_
   | refine LeO.bind ?_ (fun _ => ?_)
set_option maxHeartbeats 8000000 in
set_option maxRecDepth 100000 in
theorem wire_Offset.calls (k : Nat) (A0 : Option Addr) (c0 : Nat) (l0 : List Int) (r : Int) (w : World) (hr0 : Kd.C (Kd.int .u8) w A0 l0.length l0) (hc0 : l0.length ≤ c0) (h : wire_Offset.f k l0 = some r) :
  Calls Tryz.prog 87 #[.slice A0 l0.length c0] w fun e w' => e = .returned (.int .i64 r) ∧ Drawn0 w w' := by
 have HR0 := Aside0.mk hr0
 have HC0 := Aside0.mk hc0
 clear hr0 hc0
 have H : ((wire_Number.f k l0).bind fun t136 => (if (l0.length : Int) > 0 then (if (l0.length : Int) ≤ 7 then (if 0 ≤ (wrap64 ((wrap64 (8 * (l0.length : Int))) - 1)) then (if t136 ≥ (shl .i64 1 (wrap64 ((wrap64 (8 * (l0.length : Int))) - 1))) then (if 0 ≤ (wrap64 (8 * (l0.length : Int))) then (some (wrap64 (t136 - (shl .i64 1 (wrap64 (8 * (l0.length : Int))))))) else (none)) else (some t136)) else (none)) else (some t136)) else (some t136))) = some r := h
 clear h
 replace H := Option.bind_eq_some_iff.mp H
 obtain ⟨t136, A20, H⟩ := H
 replace H : (if (l0.length : Int) > 0 then (if (l0.length : Int) ≤ 7 then (if 0 ≤ (wrap64 ((wrap64 (8 * (l0.length : Int))) - 1)) then (if t136 ≥ (shl .i64 1 (wrap64 ((wrap64 (8 * (l0.length : Int))) - 1))) then (if 0 ≤ (wrap64 (8 * (l0.length : Int))) then (some (wrap64 (t136 - (shl .i64 1 (wrap64 (8 * (l0.length : Int))))))) else (none)) else (some t136)) else (none)) else (some t136)) else (some t136)) = some r := H
 have A2 := Aside0.mk A20
 clear A20
 by_cases c3 : (l0.length : Int) > 0
 ·rw [if_pos c3] at H
  have c3b0 : decide (0 < (l0.length : Int)) = true := decide_eq_true c3
  have c3b1 : decide (0 < l0.length) = true := decide_eq_true (by omega)
  clear c3
  by_cases c4 : (l0.length : Int) ≤ 7
  ·rw [if_pos c4] at H
   have c4b0 : decide ((l0.length : Int) ≤ 7) = true := decide_eq_true c4
   have c4b1 : decide (l0.length ≤ 7) = true := decide_eq_true (by omega)
   clear c4
   obtain ⟨ji5, hji5⟩ : ∃ j_ : Int, (wrap64 ((wrap64 (8 * (l0.length : Int))) - 1)) = j_ := ⟨_, rfl⟩
   replace H : (if 0 ≤ (ji5) then (if t136 ≥ (shl .i64 1 (ji5)) then (if 0 ≤ (wrap64 (8 * (l0.length : Int))) then (some (wrap64 (t136 - (shl .i64 1 (wrap64 (8 * (l0.length : Int))))))) else (none)) else (some t136)) else (none)) = some r := by first | (rw [hji5] at H; exact H) | (simp only [hji5] at H ⊢; exact H)
   (try rw [hji5] at A2)
   have hji5w : (IntKind.i64.wrap ((wrap64 (8 * (l0.length : Int))) - 1)) = ji5 := (i64_w _).trans hji5
   by_cases c6 : 0 ≤ (ji5)
   ·rw [if_pos c6] at H
    have c6b0 := eq_true c6
    have c6b1 : decide (0 ≤ (ji5)) = true := decide_eq_true c6
    clear c6
    obtain ⟨ji7, hji7⟩ : ∃ j_ : Int, (shl .i64 1 (ji5)) = j_ := ⟨_, rfl⟩
    replace H : (if t136 ≥ (ji7) then (if 0 ≤ (wrap64 (8 * (l0.length : Int))) then (some (wrap64 (t136 - (shl .i64 1 (wrap64 (8 * (l0.length : Int))))))) else (none)) else (some t136)) = some r := by first | (rw [hji7] at H; exact H) | (simp only [hji7] at H ⊢; exact H)
    (try rw [hji7] at A2)
    have hji7_ : (IntKind.i64.wrap (1 * 2 ^ min (ji5).toNat 64)) = ji7 := hji7
    have hji7z : (ji5) ≤ 64 → (IntKind.i64.wrap (1 * 2 ^ (ji5).toNat)) = ji7 := shl_small hji7
    have hji7u : (IntKind.i64.wrap (2 ^ min (ji5).toNat 64)) = ji7 := by have h_ := hji7_; rw [Int.one_mul] at h_; exact h_
    have hji7v : (ji5) ≤ 64 → (IntKind.i64.wrap (2 ^ (ji5).toNat)) = ji7 := fun hle_ => by have h_ := hji7z hle_; rw [Int.one_mul] at h_; exact h_
    have hji7y : (wrap64 (1 * 2 ^ min (ji5).toNat 64)) = ji7 := (i64_w _).symm.trans hji7_
    have hji7x : (ji5) ≤ 64 → (wrap64 (1 * 2 ^ (ji5).toNat)) = ji7 := fun h_ => (i64_w _).symm.trans (hji7z h_)
    by_cases c8 : t136 ≥ (ji7)
    ·rw [if_pos c8] at H
     have c8b0 : decide ((ji7) ≤ t136) = true := decide_eq_true c8
     clear c8
     obtain ⟨ji9, hji9⟩ : ∃ j_ : Int, (wrap64 (8 * (l0.length : Int))) = j_ := ⟨_, rfl⟩
     replace H : (if 0 ≤ (ji9) then (some (wrap64 (t136 - (shl .i64 1 (ji9))))) else (none)) = some r := by first | (rw [hji9] at H; exact H) | (simp only [hji9] at H ⊢; exact H)
     (try rw [hji9] at A2)
     have hji9w : (IntKind.i64.wrap (8 * (l0.length : Int))) = ji9 := (i64_w _).trans hji9
     by_cases c10 : 0 ≤ (ji9)
     ·rw [if_pos c10] at H
      have c10b0 := eq_true c10
      have c10b1 : decide (0 ≤ (ji9)) = true := decide_eq_true c10
      clear c10
      obtain ⟨ji11, hji11⟩ : ∃ j_ : Int, (shl .i64 1 (ji9)) = j_ := ⟨_, rfl⟩
      replace H : (some (wrap64 (t136 - (ji11)))) = some r := by first | (rw [hji11] at H; exact H) | (simp only [hji11] at H ⊢; exact H)
      (try rw [hji11] at A2)
      have hji11_ : (IntKind.i64.wrap (1 * 2 ^ min (ji9).toNat 64)) = ji11 := hji11
      have hji11z : (ji9) ≤ 64 → (IntKind.i64.wrap (1 * 2 ^ (ji9).toNat)) = ji11 := shl_small hji11
      have hji11u : (IntKind.i64.wrap (2 ^ min (ji9).toNat 64)) = ji11 := by have h_ := hji11_; rw [Int.one_mul] at h_; exact h_
      have hji11v : (ji9) ≤ 64 → (IntKind.i64.wrap (2 ^ (ji9).toNat)) = ji11 := fun hle_ => by have h_ := hji11z hle_; rw [Int.one_mul] at h_; exact h_
      have hji11y : (wrap64 (1 * 2 ^ min (ji9).toNat 64)) = ji11 := (i64_w _).symm.trans hji11_
      have hji11x : (ji9) ≤ 64 → (wrap64 (1 * 2 ^ (ji9).toNat)) = ji11 := fun h_ => (i64_w _).symm.trans (hji11z h_)
      obtain rfl := Option.some.inj H
      (try (have hq_ := hji5; rw [hji9] at hq_)); go_enter Tryz.func87, Tryz.ntmps87
      go_wp2_with (first | ((with_reducible refine gate_callee (f := 53) rfl ?_); refine goesL_ (some 5) rfl rfl Tryz.func53 (by kernel_rfl) rfl #[.slice A0 l0.length c0] rfl (by (try simp only [List.map_toArray, List.map_cons, List.map_nil]); first | done | rfl | (simp only [List.length_drop, List.length_take]; rfl)) ?_; (with_reducible refine (wire_Number.calls k _ _ l0 t136 _ ?side1 ?side2 A2.out).mono ?_); (case side1 => repeat (first | exact HR0.out | (with_reducible refine Kd.C_alloc ?_ _) | (with_reducible refine Kd.C_drewN ?_ _) | (with_reducible refine Kd.C_drew ?_))); (case side2 => exact HC0.out); rintro e w' ⟨rfl, ⟨nd, rfl⟩⟩; refine ⟨_, rfl, ?_⟩))
      go_ret
      exact ⟨by first | rfl | (simp; done) | (simp only [← hji5, ← hji7, ← hji9, ← hji11] <;> (first | rfl | simp)) | (simp [*]; done), by repeat (first | exact Drawn0.refl _ | apply Drawn0.step)⟩
     ·rw [if_neg c10] at H
      exact absurd H (by simp)
    ·rw [if_neg c8] at H
     have c8b0 : decide ((ji7) ≤ t136) = false := decide_eq_false c8
     clear c8
     obtain rfl := Option.some.inj H
     (try (have hq_ := hji5; rw [hji9] at hq_)); go_enter Tryz.func87, Tryz.ntmps87
     go_wp2_with (first | ((with_reducible refine gate_callee (f := 53) rfl ?_); refine goesL_ (some 5) rfl rfl Tryz.func53 (by kernel_rfl) rfl #[.slice A0 l0.length c0] rfl (by (try simp only [List.map_toArray, List.map_cons, List.map_nil]); first | done | rfl | (simp only [List.length_drop, List.length_take]; rfl)) ?_; (with_reducible refine (wire_Number.calls k _ _ l0 t136 _ ?side1 ?side2 A2.out).mono ?_); (case side1 => repeat (first | exact HR0.out | (with_reducible refine Kd.C_alloc ?_ _) | (with_reducible refine Kd.C_drewN ?_ _) | (with_reducible refine Kd.C_drew ?_))); (case side2 => exact HC0.out); rintro e w' ⟨rfl, ⟨nd, rfl⟩⟩; refine ⟨_, rfl, ?_⟩))
     go_ret
     exact ⟨by first | rfl | (simp; done) | (simp only [← hji5, ← hji7] <;> (first | rfl | simp)) | (simp [*]; done), by repeat (first | exact Drawn0.refl _ | apply Drawn0.step)⟩
   ·rw [if_neg c6] at H
    exact absurd H (by simp)
  ·rw [if_neg c4] at H
   have c4b0 : decide ((l0.length : Int) ≤ 7) = false := decide_eq_false c4
   have c4b1 : decide (l0.length ≤ 7) = false := decide_eq_false (by omega)
   clear c4
   obtain rfl := Option.some.inj H
   (try (have hq_ := hji5; rw [hji9] at hq_)); go_enter Tryz.func87, Tryz.ntmps87
   go_wp2_with (first | ((with_reducible refine gate_callee (f := 53) rfl ?_); refine goesL_ (some 5) rfl rfl Tryz.func53 (by kernel_rfl) rfl #[.slice A0 l0.length c0] rfl (by (try simp only [List.map_toArray, List.map_cons, List.map_nil]); first | done | rfl | (simp only [List.length_drop, List.length_take]; rfl)) ?_; (with_reducible refine (wire_Number.calls k _ _ l0 t136 _ ?side1 ?side2 A2.out).mono ?_); (case side1 => repeat (first | exact HR0.out | (with_reducible refine Kd.C_alloc ?_ _) | (with_reducible refine Kd.C_drewN ?_ _) | (with_reducible refine Kd.C_drew ?_))); (case side2 => exact HC0.out); rintro e w' ⟨rfl, ⟨nd, rfl⟩⟩; refine ⟨_, rfl, ?_⟩))
   go_ret
   exact ⟨by first | rfl | (simp; done) | (simp [*]; done), by repeat (first | exact Drawn0.refl _ | apply Drawn0.step)⟩
 ·rw [if_neg c3] at H
  have c3b0 : decide (0 < (l0.length : Int)) = false := decide_eq_false c3
  have c3b1 : decide (0 < l0.length) = false := decide_eq_false (by omega)
  clear c3
  obtain rfl := Option.some.inj H
  (try (have hq_ := hji5; rw [hji9] at hq_)); go_enter Tryz.func87, Tryz.ntmps87
  go_wp2_with (first | ((with_reducible refine gate_callee (f := 53) rfl ?_); refine goesL_ (some 5) rfl rfl Tryz.func53 (by kernel_rfl) rfl #[.slice A0 l0.length c0] rfl (by (try simp only [List.map_toArray, List.map_cons, List.map_nil]); first | done | rfl | (simp only [List.length_drop, List.length_take]; rfl)) ?_; (with_reducible refine (wire_Number.calls k _ _ l0 t136 _ ?side1 ?side2 A2.out).mono ?_); (case side1 => repeat (first | exact HR0.out | (with_reducible refine Kd.C_alloc ?_ _) | (with_reducible refine Kd.C_drewN ?_ _) | (with_reducible refine Kd.C_drew ?_))); (case side2 => exact HC0.out); rintro e w' ⟨rfl, ⟨nd, rfl⟩⟩; refine ⟨_, rfl, ?_⟩))
  go_ret
  exact ⟨by first | rfl | (simp; done) | (simp [*]; done), by repeat (first | exact Drawn0.refl _ | apply Drawn0.step)⟩
end Go.Proofs.YtaaifdclojkdmaaGreatDoor.MFr
set_option linter.unusedVariables false
set_option linter.unusedSimpArgs false
set_option maxRecDepth 100000
namespace Go.Proofs.YtaaifdclojkdmaaGreatDoor.MFr
open Go.RowKit Go.Proofs.YtaaifdclojkdmaaGreatDoorW.PrintWords Go.Proofs.YtaaifdclojkdmaaGreatDoorW.PrintLast Go.Proofs.YtaaifdclojkdmaaGreatDoorW.PrintMore
def tk (l : List Int) (at_ : Int) (bad : Bool) (n : Int) : List Int × Int × Bool :=
 if bad = true ∨ n < 0 ∨ (l.length : Int) - at_ < n then ([], at_, true) else ((l.take (at_ + n).toNat).drop at_.toNat, at_ + n, false)
def fd (l : List Int) (at_ : Int) (bad : Bool) (n : Int) : List Int × Int × Bool :=
 if 1 ≤ n ∧ n ≤ 7 then tk l at_ bad n else ([], at_, true)
structure After (w w' : World) (base g : Nat) (v0 : Value) (l : List Int) (at_ : Int) (bad : Bool) : Prop where
 below : Below base w w'
 keep : KeepBut w w' g none
 rd : Rd w' base g v0 l at_ bad
theorem After.then_ {w w1 w2 : World} {base g : Nat} {v0 : Value} {l : List Int} {at1 at2 : Int} {b1 b2 : Bool} (h : After w w1 base g v0 l at1 b1) (k : After w1 w2 base g v0 l at2 b2) : After w w2 base g v0 l at2 b2 :=
 ⟨h.below.trans k.below, h.keep.trans k.keep (.inl rfl), k.rd⟩
theorem After.more {w w1 w2 : World} {base g : Nat} {v0 : Value} {l : List Int} {at1 : Int} {b1 : Bool} (h : After w w1 base g v0 l at1 b1) (k : Below w1.heap.size w1 w2) : After w w2 base g v0 l at1 b1 :=
 ⟨h.below.trans (k.mono (Nat.le_trans h.rd.2.2 (Nat.le_of_lt (blk_lt h.rd.1)))), h.keep.trans (KeepBut.of_below k g none) (.inl rfl), ⟨(k.block g (blk_lt h.rd.1)).trans h.rd.1, Kd.R_below h.rd.2.1 k, h.rd.2.2⟩⟩
theorem After.same {w : World} {base g : Nat} {v0 : Value} {l : List Int} {at1 : Int} {b1 : Bool} (h : Rd w base g v0 l at1 b1) : After w w base g v0 l at1 b1 := ⟨Below.refl _ _, KeepBut.refl _ _ _, h⟩
theorem After.bad {w : World} {base g : Nat} {v0 : Value} {l : List Int} {at1 : Int} {b1 : Bool} (h : Rd w base g v0 l at1 b1) (m : Nat) (b : Bool) : After w ((w.drewN m).setCell ⟨g, 2, none⟩ (.bool b)) base g v0 l at1 b := by
 have h1 : Rd (w.drewN m) base g v0 l at1 b1 := ⟨h.1, Kd.R_drewN h.2.1 m, h.2.2⟩
 exact ⟨(pw_below_drewN (Below.refl _ _) m).setCell h.2.2 _, (KeepBut.of_below (pw_below_drewN (Below.refl _ _) m) g none : KeepBut w (w.drewN m) g none).set_ 2 (.bool b), h1.put.2 b⟩
theorem Rd.drewN {w : World} {base g : Nat} {v0 : Value} {l : List Int} {at1 : Int} {b1 : Bool} (h : Rd w base g v0 l at1 b1) (m : Nat) : Rd (w.drewN m) base g v0 l at1 b1 := ⟨h.1, Kd.R_drewN h.2.1 m, h.2.2⟩
theorem After.drewN {w : World} {base g : Nat} {v0 : Value} {l : List Int} {at1 : Int} {b1 : Bool} (h : Rd w base g v0 l at1 b1) (m : Nat) : After w (w.drewN m) base g v0 l at1 b1 := (After.same h).more (pw_below_drewN (Below.refl _ _) m)
variable {base g : Nat} {A : Option Addr} {c : Nat} {l : List Int} {at_ : Int} {bad : Bool}
theorem take_walk (n : Int) (w : World) (h : Rd w base g (.slice A l.length c) l at_ bad) (a0 : 0 ≤ at_) (a1 : at_ ≤ l.length) (hl : l.length ≤ 1000000) :
  Calls Tryz.prog 77 #[.pointer (some ⟨g, 0, none⟩), .int .i64 n] w fun e w' => ∃ v, e = .returned v ∧ (Kd.int .u8).R 5 w' w.heap.size (fun _ => True) v (tk l at_ bad n).1 ∧ After w w' base g (.slice A l.length c) l (tk l at_ bad n).2.1 (tk l at_ bad n).2.2 := by
 unfold tk
 cases bad with
 | true =>
  rw [if_pos (.inl rfl)]
  refine (take_bad n w h).mono ?_
  rintro e w' ⟨rfl, rfl⟩
  exact ⟨_, rfl, Kd.R_nil _ _ _ _ _, After.same h⟩
 | false =>
  by_cases hn : n < 0 ∨ (l.length : Int) - at_ < n
  ·rw [if_pos (.inr hn)]
   refine (take_no n w h a0 a1 hl hn).mono ?_
   rintro e w' ⟨rfl, m, rfl⟩
   exact ⟨_, rfl, Kd.R_nil _ _ _ _ _, After.bad h m true⟩
  ·rw [if_neg (by simp only [not_or]; exact ⟨by decide, by omega, by omega⟩)]
   refine (take_yes n w h a0 a1 hl (by omega) (by omega)).mono ?_
   rintro e w' ⟨v, rfl, h1, h2, h3, h4⟩
   exact ⟨v, rfl, h1, h2, h3, h4⟩
set_option maxHeartbeats 1000000 in
theorem field_walk (n : Int) (w : World) (h : Rd w base g (.slice A l.length c) l at_ bad) (a0 : 0 ≤ at_) (a1 : at_ ≤ l.length) (hl : l.length ≤ 1000000) :
  Calls Tryz.prog 54 #[.pointer (some ⟨g, 0, none⟩), .int .i64 n] w fun e w' => ∃ v, e = .returned v ∧ (Kd.int .u8).R 5 w' w.heap.size (fun _ => True) v (fd l at_ bad n).1 ∧ After w w' base g (.slice A l.length c) l (fd l at_ bad n).2.1 (fd l at_ bad n).2.2 := by
 have hr : wire_right.f n = some (decide (1 ≤ n ∧ n ≤ 7)) := by
  unfold wire_right.f
  by_cases h1 : 1 ≤ n
  ·rw [if_pos h1]; simp [h1]
  ·rw [if_neg h1]; simp [h1]
 have HR := Aside0.mk hr
 have HH := Aside0.mk h
 clear h hr
 by_cases hn : 1 ≤ n ∧ n ≤ 7
 ·rw [show fd l at_ bad n = tk l at_ bad n from if_pos hn]
  rw [decide_eq_true hn] at HR
  go_enter Tryz.func54, Tryz.ntmps54
  go_wp2_with (first | (go_at_call 74; refine (wire_right.calls n _ _ HR.out).mono ?_; rintro e w1 ⟨rfl, ⟨m, rfl⟩⟩) | (go_at_call 77; refine (take_walk n _ (HH.out.drewN m) a0 a1 hl).mono ?_; rintro e w1 ⟨v, rfl, ho, hA⟩; have HO := Aside0.mk ho; have HA := Aside0.mk hA; clear ho hA))
  go_ret
  exact ⟨_, rfl, HO.out, (After.drewN HH.out m).then_ HA.out⟩
 ·rw [show fd l at_ bad n = ([], at_, true) from if_neg hn]
  rw [decide_eq_false hn] at HR
  obtain ⟨hc0, hc1, hc2⟩ := HH.out.cell
  have hf2 := blk_frozen HH.out.1 2
  go_enter Tryz.func54, Tryz.ntmps54
  go_wp2_with (first | (go_at_call 74; refine (wire_right.calls n _ _ HR.out).mono ?_; rintro e w1 ⟨rfl, ⟨m, rfl⟩⟩))
  refine (take_bad n _ (After.bad HH.out m true).rd).mono ?_
  rintro e w1 ⟨rfl, rfl⟩
  go_wp2
  go_ret
  exact ⟨_, rfl, Kd.R_nil _ _ _ _ _, After.bad HH.out m true⟩
theorem numberR_walk (k : Nat) (n r : Int) (w : World) (h : Rd w base g (.slice A l.length c) l at_ bad) (a0 : 0 ≤ at_) (a1 : at_ ≤ l.length) (hl : l.length ≤ 1000000) (hf : wire_Number.f k (fd l at_ bad n).1 = some r) :
  Calls Tryz.prog 30 #[.pointer (some ⟨g, 0, none⟩), .int .i64 n] w fun e w' => e = .returned (.int .i64 r) ∧ After w w' base g (.slice A l.length c) l (fd l at_ bad n).2.1 (fd l at_ bad n).2.2 := by
 have HH := Aside0.mk h
 have HF := Aside0.mk hf
 clear h hf
 go_enter Tryz.func30, Tryz.ntmps30
 go_wp2_with (first | (go_at_call 54; refine (field_walk n _ HH.out a0 a1 hl).mono ?_; rintro e w1 ⟨v, rfl, ho, hA⟩; obtain ⟨A1, c1, rfl⟩ := Kd.R_slice ho; have HO := Aside0.mk ho; have HA := Aside0.mk hA; clear ho hA) | (go_at_call 53; refine (wire_Number.calls k _ _ _ r _ (Kd.R_reads' HO.out).2.2 (Kd.R_reads' HO.out).2.1 HF.out).mono ?_; rintro e w2 ⟨rfl, hD⟩; have HD := Aside0.mk hD; clear hD))
 go_ret
 exact ⟨rfl, HA.out.more HD.out.below⟩
theorem offsetR_walk (k : Nat) (n r : Int) (w : World) (h : Rd w base g (.slice A l.length c) l at_ bad) (a0 : 0 ≤ at_) (a1 : at_ ≤ l.length) (hl : l.length ≤ 1000000) (hf : wire_Offset.f k (fd l at_ bad n).1 = some r) :
  Calls Tryz.prog 86 #[.pointer (some ⟨g, 0, none⟩), .int .i64 n] w fun e w' => e = .returned (.int .i64 r) ∧ After w w' base g (.slice A l.length c) l (fd l at_ bad n).2.1 (fd l at_ bad n).2.2 := by
 have HH := Aside0.mk h
 have HF := Aside0.mk hf
 clear h hf
 go_enter Tryz.func86, Tryz.ntmps86
 go_wp2_with (first | (go_at_call 54; refine (field_walk n _ HH.out a0 a1 hl).mono ?_; rintro e w1 ⟨v, rfl, ho, hA⟩; obtain ⟨A1, c1, rfl⟩ := Kd.R_slice ho; have HO := Aside0.mk ho; have HA := Aside0.mk hA; clear ho hA) | (go_at_call 87; refine (wire_Offset.calls k _ _ _ r _ (Kd.R_reads' HO.out).2.2 (Kd.R_reads' HO.out).2.1 HF.out).mono ?_; rintro e w2 ⟨rfl, hD⟩; have HD := Aside0.mk hD; clear hD))
 go_ret
 exact ⟨rfl, HA.out.more HD.out.below⟩
theorem atR_walk (w : World) (v0 : Value) (h : Rd w base g v0 l at_ bad) :
  Calls Tryz.prog 34 #[.pointer (some ⟨g, 0, none⟩)] w fun e w' => e = .returned (.int .i64 at_) ∧ w' = w := by
 obtain ⟨hc0, hc1, hc2⟩ := h.cell
 clear h
 go_enter Tryz.func34, Tryz.ntmps34
 go_wp2
 go_ret
 exact ⟨rfl, rfl⟩
theorem leftR_walk (w : World) (h : Rd w base g (.slice A l.length c) l at_ bad) (a0 : 0 ≤ at_) (a1 : at_ ≤ l.length) (hl : l.length ≤ 1000000) :
  Calls Tryz.prog 32 #[.pointer (some ⟨g, 0, none⟩)] w fun e w' => e = .returned (.int .i64 ((l.length : Int) - at_)) ∧ ∃ m, w' = w.drewN m := by
 obtain ⟨hc0, hc1, hc2⟩ := h.cell
 clear h
 have hw : wrap64 ((l.length : Int) - at_) = (l.length : Int) - at_ := by unfold wrap64; omega
 go_enter Tryz.func32, Tryz.ntmps32
 go_wp2
 go_quiet (fail)
 go_wp2
 go_ret
 exact ⟨rfl, _, rfl⟩
end Go.Proofs.YtaaifdclojkdmaaGreatDoor.MFr
namespace Go.Proofs.YtaaifdclojkdmaaGreatDoor.MFr
open Go.RowKit Go.Proofs.YtaaifdclojkdmaaGreatDoorW.PrintWords Go.Proofs.YtaaifdclojkdmaaGreatDoorW.PrintLast Go.Proofs.YtaaifdclojkdmaaGreatDoorW.PrintMore
attribute [local go_sem] mp_u32s mp_u32m mp_u8s mp_u8m max2_int min2_int max_two min_two max_three min_three max_four min_four
set_option linter.unusedVariables false
set_option linter.unusedSimpArgs false
def drumlineref1_Copy.f (l0 : List Int) : Option (List Int) := if ([] : List Int).length + l0.length < 140737488355328 then (some (([] : List Int) ++ l0)) else (none)
set_option maxHeartbeats 8000000 in
set_option maxRecDepth 100000 in
theorem drumlineref1_Copy.calls (A0 : Option Addr) (c0 : Nat) (l0 : List Int) (r : List Int) (w : World) (hr0 : Kd.C (Kd.int .u8) w A0 l0.length l0) (hc0 : l0.length ≤ c0) (h : drumlineref1_Copy.f l0 = some r) :
  Calls Tryz.prog 20 #[.slice A0 l0.length c0] w fun e w' => ∃ v0_ : Value, e = .returned (v0_) ∧ Kd.R (Kd.int .u8) 5 w' w.heap.size (fun _ => True) v0_ r ∧ Below w.heap.size w w' := by
 have HR0 := Aside0.mk hr0
 have HC0 := Aside0.mk hc0
 clear hr0 hc0
 have HB := Aside0.mk (Below.refl w.heap.size w)
 have H : (if ([] : List Int).length + l0.length < 140737488355328 then (some (([] : List Int) ++ l0)) else (none)) = some r := h
 clear h
 by_cases c2 : ([] : List Int).length + l0.length < 140737488355328
 ·rw [if_pos c2] at H
  have LMc2 := Aside0.mk c2
  clear c2
  obtain ⟨y206, hy206⟩ : ∃ y_ : List Int, y_ = (([] : List Int) ++ l0) := ⟨_, rfl⟩
  replace H : (some y206) = some r := by first | (rw [hy206]; with_reducible exact H) | (have H2_ := (Option.bind_some _ _).symm.trans H; rw [hy206]; with_reducible exact H2_) | (have H2_ := (Option.bind_some _ _).symm.trans H; with_reducible exact H2_) | with_reducible exact H | (rw [hy206]; exact H) | exact H
  have Ny206 := Aside0.mk hy206
  clear hy206
  obtain rfl := Option.some.inj H
  go_enter Tryz.func20, Tryz.ntmps20
  go_wp2_with (first | ((with_reducible refine gate_builtin (b := .append) (xs := #[.const (.slice none 0 0), .tmp 3]) rfl ?_); at_builtin; refine Kd.R_append_rows (Kd.int .u8) (w0 := w) w.heap.size rfl (.const (.slice none 0 0)) (.tmp 3) 22 5 (.int .u8 0) 1 rfl Tryz.underlying22 info5 rfl (by decide) (by omega) (.slice none 0 0) ([] : List Int) l0 _ _ _ (fun _ => True) (fun _ => False) rfl rfl ?aO ?aR (fun _ _ h => h) (fun _ h => h.elim) ?aF ?aB ?aS ?aL ?_; (case aR => repeat (first | exact HR0.out | (with_reducible refine Kd.C_alloc ?_ _) | (with_reducible refine Kd.C_drewN ?_ _) | (with_reducible refine Kd.C_drew ?_))); (case aB => exact (by repeat (first | (with_reducible first | exact HB.out | apply below_alloc | apply pw_below_drewN | apply below_drew1) | exact HB.out))); (case aF => exact (fun _ _ => trivial)); (case aO => exact ((Kd.R_nil _ _ _ _ (fun _ => True)))); (case aS => exact (below_size (by repeat (first | (with_reducible first | exact HB.out | apply below_alloc | apply pw_below_drewN | apply below_drew1) | exact HB.out)))); (case aL => have := LMc2.out; omega); intro v207 w3 ho hb hg hat; rw [← Ny206.out] at ho; have n0_ := Aside0.mk (hb); have n1_ := Aside0.mk (ho); clear HB; have HB := n0_; have HO208 := n1_; clear n0_ n1_; clear ho hb hg hat))
  go_ret
  exact ⟨_, by first | rfl | (simp [errW_none, errW_some] <;> rfl) | (simp [*, errW_none, errW_some] <;> rfl), by (with_reducible repeat (first | apply Kd.R_alloc | apply Kd.R_drewN | apply Kd.R_drew)); exact HO208.out, by repeat (first | (with_reducible first | exact HB.out | apply below_alloc | apply pw_below_drewN | apply below_drew1) | exact HB.out)⟩
 ·rw [if_neg c2] at H
  exact absurd H (by simp)
def drumlineref1_Number.l0 : Nat → List Int → Int → Int → Option (Int)
 | 0, _, _, _ => none
 | k + 1, x0, x3, x4 => if x4 < (x0.length : Int) then (if 0 ≤ x4 then (drumlineref1_Number.l0 k x0 (Go.bits .or .i64 (wrap64 (x3 * 256)) (wrap64 (rd x0 x4))) (wrap64 (x4 + 1))) else (none)) else (some x3)
def drumlineref1_Number.f (k : Nat) (l0 : List Int) : Option (Int) := if (l0.length : Int) > 7 then (some 0) else (drumlineref1_Number.l0 k l0 0 0)
theorem drumlineref1_Number.mono_l : ∀ k, (∀ y0 y1 y2, LeO (drumlineref1_Number.l0 k y0 y1 y2) (drumlineref1_Number.l0 (k + 1) y0 y1 y2))
 | 0 => fun _ _ _ r h => by simp [drumlineref1_Number.l0] at h
 | k + 1 => by
  have ih0 := drumlineref1_Number.mono_l k
  ·intro y0 y1 y2
   unfold drumlineref1_Number.l0
   repeat' first
   | (with_reducible exact ih0 _ _ _)
   | (with_reducible exact LeO.refl _)
   | (with_reducible exact LeO.none _)
   | (with_reducible refine LeO.ite ?_ ?_)
   | (with_reducible refine LeO.bind ?_ (fun _ => ?_))
   | exact ih0 _ _ _
   | exact LeO.none _
   | refine LeO.ite ?_ ?_
   | refine LeO.bind ?_ (fun _ => ?_)
theorem drumlineref1_Number.mono : ∀ a0 k, LeO (drumlineref1_Number.f k a0) (drumlineref1_Number.f (k + 1) a0) := by
 intro a0 k
 have ih0 := drumlineref1_Number.mono_l k
 unfold drumlineref1_Number.f
 repeat' first
   | (with_reducible exact ih0 _ _ _)
   | (with_reducible exact LeO.refl _)
   | (with_reducible exact LeO.none _)
   | (with_reducible refine LeO.ite ?_ ?_)
   | (with_reducible refine LeO.bind ?_ (fun _ => ?_))
   | exact ih0 _ _ _
   | exact LeO.none _
   | refine LeO.ite ?_ ?_
   | refine LeO.bind ?_ (fun _ => ?_)
set_option maxHeartbeats 8000000 in
set_option maxRecDepth 100000 in
theorem drumlineref1_Number.calls (k : Nat) (A0 : Option Addr) (c0 : Nat) (l0 : List Int) (r : Int) (w : World) (hr0 : Kd.C (Kd.int .u8) w A0 l0.length l0) (hc0 : l0.length ≤ c0) (h : drumlineref1_Number.f k l0 = some r) :
  Calls Tryz.prog 81 #[.slice A0 l0.length c0] w fun e w' => e = .returned (.int .i64 r) ∧ Drawn0 w w' := by
 have HR0 := Aside0.mk hr0
 have HC0 := Aside0.mk hc0
 clear hr0 hc0
 have H : (if (l0.length : Int) > 7 then (some 0) else (drumlineref1_Number.l0 k l0 0 0)) = some r := h
 clear h
 by_cases c2 : (l0.length : Int) > 7
 ·rw [if_pos c2] at H
  have c2b0 : decide (7 < (l0.length : Int)) = true := decide_eq_true c2
  have c2b1 : decide (7 < l0.length) = true := decide_eq_true (by omega)
  clear c2
  obtain rfl := Option.some.inj H
  go_enter Tryz.func81, Tryz.ntmps81
  go_wp2
  go_ret
  exact ⟨by first | rfl | (simp; done) | (simp [*]; done), by repeat (first | exact Drawn0.refl _ | apply Drawn0.step)⟩
 ·rw [if_neg c2] at H
  have c2b0 : decide (7 < (l0.length : Int)) = false := decide_eq_false c2
  have c2b1 : decide (7 < l0.length) = false := decide_eq_false (by omega)
  clear c2
  have H' := Aside0.mk H
  clear H
  go_enter Tryz.func81, Tryz.ntmps81
  go_wp2
  go_loopg [3, 4] k (fun kq v3 v4 w' => ∃ (x3_1 : Int) (x4_1 : Int), v3 = .int .i64 x3_1 ∧ v4 = .int .i64 x4_1 ∧ Aside0 (drumlineref1_Number.l0 kq l0 x3_1 x4_1 = some r) ∧ Aside0 (kq ≤ k) ∧ Drawn0 w w')
  case atStart => exact ⟨(0), (0), (by first | rfl | (simp; done) | (simp [*]; done)), (by first | rfl | (simp; done) | (simp [*]; done)), H', ⟨Nat.le_refl _⟩, by repeat (first | exact Drawn0.refl _ | apply Drawn0.step)⟩
  case round =>
   clear H'
   try clear c2
   try clear c2b0
   try clear c2b1
   try clear p2
   obtain ⟨x3_1, x4_1, rfl, rfl, HA, HK1, ⟨m1, rfl⟩⟩ := hrel
   cases gk with
   | zero => exact absurd HA.out (by simp [drumlineref1_Number.l0])
   | succ k1 =>
    have H := HA.out
    clear HA
    simp only [drumlineref1_Number.l0] at H
    by_cases c3 : x4_1 < (l0.length : Int)
    ·rw [if_pos c3] at H
     have c3b0 : decide (x4_1 < (l0.length : Int)) = true := decide_eq_true c3
     clear c3
     by_cases c4 : 0 ≤ x4_1
     ·rw [if_pos c4] at H
      have c4b0 : decide (0 ≤ x4_1) = true := decide_eq_true c4
      clear c4
      have H' := Aside0.mk H
      clear H
      have p227 : 0 ≤ (x4_1 : Int) := of_decide_eq_true (by first | (with_reducible assumption) | assumption)
      have q227 : x4_1 < (l0.length : Int) := of_decide_eq_true (by first | (with_reducible assumption) | assumption)
      obtain ⟨ad227, e227, hx227_0⟩ := Kd.at_int HR0.out x4_1 p227 q227
      cases e227
      replace p227 := eq_true p227
      replace q227 := eq_true q227
      go_wp2
      go_roundg k1
      case measure => have := HK1.out; omega
      case rel => exact ⟨(Go.bits .or .i64 (wrap64 (x3_1 * 256)) (wrap64 (rd l0 x4_1))), (wrap64 (x4_1 + 1)), (by first | rfl | (simp; done) | (simp [*]; done)), (by first | rfl | (simp; done) | (simp [*]; done)), H', ⟨by have := HK1.out; omega⟩, by repeat (first | exact Drawn0.refl _ | apply Drawn0.step)⟩
     ·rw [if_neg c4] at H
      exact absurd H (by simp)
    ·rw [if_neg c3] at H
     have c3b0 : decide (x4_1 < (l0.length : Int)) = false := decide_eq_false c3
     clear c3
     obtain rfl := Option.some.inj H
     go_wp2
     go_ret
     exact ⟨by first | rfl | (simp; done) | (simp [*]; done), by repeat (first | exact Drawn0.refl _ | apply Drawn0.step)⟩
def drumlineref1_Offset.j0 : Nat → List Int → Bool → Option (Int)
 | 0, _, _ => none
 | k + 1, x0, x11 => if x11 = true then (some 0) else ((drumlineref1_Number.f k x0).bind fun t237 => (if 0 < (x0.length : Int) then (if (rd x0 0) ≥ 128 then (if 0 ≤ (IntKind.u64.wrap (wrap64 (8 * (x0.length : Int)))) then (some (wrap64 (t237 - (shl .i64 1 (IntKind.u64.wrap (wrap64 (8 * (x0.length : Int)))))))) else (none)) else (some t237)) else (none)))
def drumlineref1_Offset.f (k : Nat) (l0 : List Int) : Option (Int) := if (l0.length : Int) = 0 then (drumlineref1_Offset.j0 k l0 true) else (drumlineref1_Offset.j0 k l0 (decide ((l0.length : Int) > 7)))
theorem drumlineref1_Offset.mono_l : ∀ k, (∀ y0 y1, LeO (drumlineref1_Offset.j0 k y0 y1) (drumlineref1_Offset.j0 (k + 1) y0 y1))
 | 0 => fun _ _ r h => by simp [drumlineref1_Offset.j0] at h
 | k + 1 => by
  have ih0 := drumlineref1_Offset.mono_l k
  ·intro y0 y1
   unfold drumlineref1_Offset.j0
   repeat' first
   | (with_reducible exact ih0 _ _)
   | (with_reducible exact drumlineref1_Number.mono _ _)
   | (with_reducible exact LeO.refl _)
   | (with_reducible exact LeO.none _)
   | (with_reducible refine LeO.ite ?_ ?_)
   | (with_reducible refine LeO.bind ?_ (fun _ => ?_))
   | exact ih0 _ _
   | exact drumlineref1_Number.mono _ _
   | exact LeO.none _
   | refine LeO.ite ?_ ?_
   | refine LeO.bind ?_ (fun _ => ?_)
theorem drumlineref1_Offset.mono : ∀ a0 k, LeO (drumlineref1_Offset.f k a0) (drumlineref1_Offset.f (k + 1) a0) := by
 intro a0 k
 have ih0 := drumlineref1_Offset.mono_l k
 unfold drumlineref1_Offset.f
 repeat' first
   | (with_reducible exact ih0 _ _)
   | (with_reducible exact drumlineref1_Number.mono _ _)
   | (with_reducible exact LeO.refl _)
   | (with_reducible exact LeO.none _)
   | (with_reducible refine LeO.ite ?_ ?_)
   | (with_reducible refine LeO.bind ?_ (fun _ => ?_))
   | exact ih0 _ _
   | exact drumlineref1_Number.mono _ _
   | exact LeO.none _
   | refine LeO.ite ?_ ?_
   | refine LeO.bind ?_ (fun _ => ?_)
set_option maxHeartbeats 8000000 in
set_option maxRecDepth 100000 in
theorem drumlineref1_Offset.calls (k : Nat) (A0 : Option Addr) (c0 : Nat) (l0 : List Int) (r : Int) (w : World) (hr0 : Kd.C (Kd.int .u8) w A0 l0.length l0) (hc0 : l0.length ≤ c0) (h : drumlineref1_Offset.f k l0 = some r) :
  Calls Tryz.prog 83 #[.slice A0 l0.length c0] w fun e w' => e = .returned (.int .i64 r) ∧ Drawn0 w w' := by
 have HR0 := Aside0.mk hr0
 have HC0 := Aside0.mk hc0
 clear hr0 hc0
 have H : (if (l0.length : Int) = 0 then (drumlineref1_Offset.j0 k l0 true) else (drumlineref1_Offset.j0 k l0 (decide ((l0.length : Int) > 7)))) = some r := h
 clear h
 have HC2 := Aside0.mk H
 clear H
 go_enter Tryz.func83, Tryz.ntmps83
 go_upto_region 1 with (fail)
 go_cut [11] (fun v11 wc => ∃ (kq : Nat) (x11_1 : Bool), v11 = .bool x11_1 ∧ Aside0 (drumlineref1_Offset.j0 kq l0 x11_1 = some r) ∧ Aside0 (kq ≤ k) ∧ Drawn0 w wc)
 case first =>
  have H := HC2.out
  clear HC2
  by_cases c3 : (l0.length : Int) = 0
  ·rw [if_pos c3] at H
   have c3b0 : ((l0.length : Int) == 0) = true := beq_iff_eq.mpr c3
   have c3b1 : ((l0.length : Int) != 0) = false := bne_eq_false_iff_eq.mpr c3
   clear c3
   (first | rw [c3b0] | (simp only [i64_w, i32_w]; rw [c3b0]) | skip)
   have H' := Aside0.mk H
   clear H
   go_wp2
   go_meet
   case rel => exact ⟨_, (true), (by first | rfl | (simp; done) | (simp [*]; done)), H', ⟨by first | omega | exact Nat.le_refl _⟩, by repeat (first | exact Drawn0.refl _ | apply Drawn0.step)⟩
  ·rw [if_neg c3] at H
   have c3b0 : ((l0.length : Int) == 0) = false := beq_eq_false_iff_ne.mpr c3
   have c3b1 : ((l0.length : Int) != 0) = true := bne_iff_ne.mpr c3
   have c3b2 : ¬ (l0 = []) := fun h_ => c3 (by rw [h_]; rfl)
   (first | rw [c3b0] | (simp only [i64_w, i32_w]; rw [c3b0]) | skip)
   have H' := Aside0.mk H
   clear H
   go_wp2
   go_meet
   case rel => exact ⟨_, (decide ((l0.length : Int) > 7)), (by first | rfl | (simp; done) | (simp [*]; done)), H', ⟨by first | omega | exact Nat.le_refl _⟩, by repeat (first | exact Drawn0.refl _ | apply Drawn0.step)⟩
 case rest =>
  clear HC2
  try clear p2
  try clear c3
  try clear c3b0
  try clear c3b1
  try clear c3b2
  obtain ⟨kq, x11_1, rfl, HA, HJ1, ⟨mc1, rfl⟩⟩ := hcut
  cases kq with
  | zero => exact absurd HA.out (by simp [drumlineref1_Offset.j0])
  | succ kj1 =>
   have H := HA.out
   clear HA
   simp only [drumlineref1_Offset.j0] at H
   by_cases c4 : x11_1 = true
   ·subst c4
    have H1 : (some 0) = some r := by rw [if_pos rfl] at H; exact H
    clear H
    have H := H1
    clear H1
    obtain rfl := Option.some.inj H
    go_wp2
    go_ret
    exact ⟨by first | rfl | (simp; done) | (simp [*]; done), by repeat (first | exact Drawn0.refl _ | apply Drawn0.step)⟩
   ·replace c4 := Bool.eq_false_iff.mpr c4
    subst c4
    have H1 : ((drumlineref1_Number.f kj1 l0).bind fun t237 => (if 0 < (l0.length : Int) then (if (rd l0 0) ≥ 128 then (if 0 ≤ (IntKind.u64.wrap (wrap64 (8 * (l0.length : Int)))) then (some (wrap64 (t237 - (shl .i64 1 (IntKind.u64.wrap (wrap64 (8 * (l0.length : Int)))))))) else (none)) else (some t237)) else (none))) = some r := by rw [if_neg (show ¬ (false = true) by decide)] at H; exact H
    clear H
    have H := H1
    clear H1
    replace H := Option.bind_eq_some_iff.mp H
    obtain ⟨t237, A50, H⟩ := H
    replace H : (if 0 < (l0.length : Int) then (if (rd l0 0) ≥ 128 then (if 0 ≤ (IntKind.u64.wrap (wrap64 (8 * (l0.length : Int)))) then (some (wrap64 (t237 - (shl .i64 1 (IntKind.u64.wrap (wrap64 (8 * (l0.length : Int)))))))) else (none)) else (some t237)) else (none)) = some r := H
    have A5 := Aside0.mk A50
    clear A50
    by_cases c6 : 0 < (l0.length : Int)
    ·rw [if_pos c6] at H
     have c6b0 : decide (0 < (l0.length : Int)) = true := decide_eq_true c6
     have c6b1 : decide (0 < l0.length) = true := decide_eq_true (by omega)
     clear c6
     by_cases c7 : (rd l0 0) ≥ 128
     ·rw [if_pos c7] at H
      have c7b0 : decide (128 ≤ (rd l0 0)) = true := decide_eq_true c7
      clear c7
      obtain ⟨ji8, hji8⟩ : ∃ j_ : Int, (IntKind.u64.wrap (wrap64 (8 * (l0.length : Int)))) = j_ := ⟨_, rfl⟩
      replace H : (if 0 ≤ (ji8) then (some (wrap64 (t237 - (shl .i64 1 (ji8))))) else (none)) = some r := by first | (rw [hji8] at H; exact H) | (simp only [hji8] at H ⊢; exact H)
      (try rw [hji8] at A5)
      by_cases c9 : 0 ≤ (ji8)
      ·rw [if_pos c9] at H
       have c9b0 := eq_true c9
       have c9b1 : decide (0 ≤ (ji8)) = true := decide_eq_true c9
       clear c9
       obtain ⟨ji10, hji10⟩ : ∃ j_ : Int, (shl .i64 1 (ji8)) = j_ := ⟨_, rfl⟩
       replace H : (some (wrap64 (t237 - (ji10)))) = some r := by first | (rw [hji10] at H; exact H) | (simp only [hji10] at H ⊢; exact H)
       (try rw [hji10] at A5)
       have hji10_ : (IntKind.i64.wrap (1 * 2 ^ min (ji8).toNat 64)) = ji10 := hji10
       have hji10z : (ji8) ≤ 64 → (IntKind.i64.wrap (1 * 2 ^ (ji8).toNat)) = ji10 := shl_small hji10
       have hji10u : (IntKind.i64.wrap (2 ^ min (ji8).toNat 64)) = ji10 := by have h_ := hji10_; rw [Int.one_mul] at h_; exact h_
       have hji10v : (ji8) ≤ 64 → (IntKind.i64.wrap (2 ^ (ji8).toNat)) = ji10 := fun hle_ => by have h_ := hji10z hle_; rw [Int.one_mul] at h_; exact h_
       have hji10y : (wrap64 (1 * 2 ^ min (ji8).toNat 64)) = ji10 := (i64_w _).symm.trans hji10_
       have hji10x : (ji8) ≤ 64 → (wrap64 (1 * 2 ^ (ji8).toNat)) = ji10 := fun h_ => (i64_w _).symm.trans (hji10z h_)
       obtain rfl := Option.some.inj H
       go_wp2_with (first | ((with_reducible refine gate_callee (f := 81) rfl ?_); refine goesL_ (some 13) rfl rfl Tryz.func81 (by kernel_rfl) rfl #[.slice A0 l0.length c0] rfl (by (try simp only [List.map_toArray, List.map_cons, List.map_nil]); first | done | rfl | (simp only [List.length_drop, List.length_take]; rfl)) ?_; (with_reducible refine (drumlineref1_Number.calls kj1 _ _ l0 t237 _ ?side1 ?side2 A5.out).mono ?_); (case side1 => repeat (first | exact HR0.out | (with_reducible refine Kd.C_alloc ?_ _) | (with_reducible refine Kd.C_drewN ?_ _) | (with_reducible refine Kd.C_drew ?_))); (case side2 => exact HC0.out); rintro e w' ⟨rfl, ⟨nd, rfl⟩⟩; refine ⟨_, rfl, ?_⟩; have p238 : 0 ≤ (0 : Int) := (by omega); have q238 : 0 < (l0.length : Int) := of_decide_eq_true (by first | (with_reducible assumption) | assumption); obtain ⟨ad238, e238, hx238_0⟩ := Kd.at_int HR0.out 0 p238 q238; cases e238; have qi238 : (0 < l0.length) = True := eq_true (by omega); (try rw [show ((0 : Int)).toNat = 0 from rfl] at hx238_0); (try rw [Addr.add_zero'] at hx238_0); replace p238 := eq_true p238; replace q238 := eq_true q238))
       go_ret
       exact ⟨by first | rfl | (simp; done) | (simp only [← hji8, ← hji10] <;> (first | rfl | simp)) | (simp [*]; done), by repeat (first | exact Drawn0.refl _ | apply Drawn0.step)⟩
      ·rw [if_neg c9] at H
       exact absurd H (by simp)
     ·rw [if_neg c7] at H
      have c7b0 : decide (128 ≤ (rd l0 0)) = false := decide_eq_false c7
      clear c7
      obtain rfl := Option.some.inj H
      go_wp2_with (first | ((with_reducible refine gate_callee (f := 81) rfl ?_); refine goesL_ (some 13) rfl rfl Tryz.func81 (by kernel_rfl) rfl #[.slice A0 l0.length c0] rfl (by (try simp only [List.map_toArray, List.map_cons, List.map_nil]); first | done | rfl | (simp only [List.length_drop, List.length_take]; rfl)) ?_; (with_reducible refine (drumlineref1_Number.calls kj1 _ _ l0 t237 _ ?side1 ?side2 A5.out).mono ?_); (case side1 => repeat (first | exact HR0.out | (with_reducible refine Kd.C_alloc ?_ _) | (with_reducible refine Kd.C_drewN ?_ _) | (with_reducible refine Kd.C_drew ?_))); (case side2 => exact HC0.out); rintro e w' ⟨rfl, ⟨nd, rfl⟩⟩; refine ⟨_, rfl, ?_⟩; have p238 : 0 ≤ (0 : Int) := (by omega); have q238 : 0 < (l0.length : Int) := of_decide_eq_true (by first | (with_reducible assumption) | assumption); obtain ⟨ad238, e238, hx238_0⟩ := Kd.at_int HR0.out 0 p238 q238; cases e238; have qi238 : (0 < l0.length) = True := eq_true (by omega); (try rw [show ((0 : Int)).toNat = 0 from rfl] at hx238_0); (try rw [Addr.add_zero'] at hx238_0); replace p238 := eq_true p238; replace q238 := eq_true q238))
      go_ret
      exact ⟨by first | rfl | (simp; done) | (simp [*]; done), by repeat (first | exact Drawn0.refl _ | apply Drawn0.step)⟩
    ·rw [if_neg c6] at H
     exact absurd H (by simp)
end Go.Proofs.YtaaifdclojkdmaaGreatDoor.MFr
set_option linter.unusedVariables false
set_option linter.unusedSimpArgs false
set_option maxRecDepth 100000
namespace Go.Proofs.YtaaifdclojkdmaaGreatDoor.MFr
namespace Dq
open Go.RowKit Go.Proofs.YtaaifdclojkdmaaGreatDoorW.PrintWords Go.Proofs.YtaaifdclojkdmaaGreatDoorW.PrintLast Go.Proofs.YtaaifdclojkdmaaGreatDoorW.PrintMore
def Rr (W : World) (base g : Nat) (A : Option Addr) (c : Nat) (l : List Int) (at_ : Int) (bad : Bool) (er ea : Int) : Prop :=
 W.heap[g]? = some (.cells #[.slice A l.length c, .int .i64 at_, .bool bad, .int .i64 er, .int .i64 ea] 87 (0, 0)) ∧ base ≤ g
theorem Rr.cell {W : World} {base g : Nat} {A : Option Addr} {c : Nat} {l : List Int} {at_ : Int} {bad : Bool} {er ea : Int} (h : Rr W base g A c l at_ bad er ea) :
  W.cell? ⟨g, 0, none⟩ = some (.slice A l.length c) ∧ W.cell? ⟨g, 1, none⟩ = some (.int .i64 at_) ∧ W.cell? ⟨g, 2, none⟩ = some (.bool bad) :=
 ⟨(blk_cell h.1 0).trans rfl, (blk_cell h.1 1).trans rfl, (blk_cell h.1 2).trans rfl⟩
theorem Rr.put {W : World} {base g : Nat} {A : Option Addr} {c : Nat} {l : List Int} {at_ : Int} {bad : Bool} {er ea : Int} (h : Rr W base g A c l at_ bad er ea) :
  (∀ n : Int, Rr (W.setCell ⟨g, 1, none⟩ (.int .i64 n)) base g A c l n bad er ea) ∧ (∀ b : Bool, Rr (W.setCell ⟨g, 2, none⟩ (.bool b)) base g A c l at_ b er ea) :=
 ⟨fun n => ⟨by simpa using blk_set h.1 1 (.int .i64 n), h.2⟩, fun b => ⟨by simpa using blk_set h.1 2 (.bool b), h.2⟩⟩
structure Aft (w w' : World) (base g : Nat) (A : Option Addr) (c : Nat) (l : List Int) (at_ : Int) (bad : Bool) (er ea : Int) : Prop where
 below : Below base w w'
 keep : KeepBut w w' g none
 rd : Rr w' base g A c l at_ bad er ea
variable {base g : Nat} {A : Option Addr} {c : Nat} {l : List Int} {at_ : Int} {bad : Bool} {er ea : Int}
theorem Aft.then_ {w w1 w2 : World} {at1 at2 : Int} {b1 b2 : Bool} (h : Aft w w1 base g A c l at1 b1 er ea) (k : Aft w1 w2 base g A c l at2 b2 er ea) : Aft w w2 base g A c l at2 b2 er ea :=
 ⟨h.below.trans k.below, h.keep.trans k.keep (.inl rfl), k.rd⟩
theorem Aft.more {w w1 w2 : World} {at1 : Int} {b1 : Bool} (h : Aft w w1 base g A c l at1 b1 er ea) (k : Below w1.heap.size w1 w2) : Aft w w2 base g A c l at1 b1 er ea :=
 ⟨h.below.trans (k.mono (Nat.le_trans h.rd.2 (Nat.le_of_lt (blk_lt h.rd.1)))), h.keep.trans (KeepBut.of_below k g none) (.inl rfl), ⟨(k.block g (blk_lt h.rd.1)).trans h.rd.1, h.rd.2⟩⟩
theorem Aft.same {w : World} {at1 : Int} {b1 : Bool} (h : Rr w base g A c l at1 b1 er ea) : Aft w w base g A c l at1 b1 er ea := ⟨Below.refl _ _, KeepBut.refl _ _ _, h⟩
theorem Aft.set_bad {w : World} {at1 : Int} {b1 : Bool} (h : Rr w base g A c l at1 b1 er ea) (m : Nat) (b : Bool) : Aft w ((w.drewN m).setCell ⟨g, 2, none⟩ (.bool b)) base g A c l at1 b er ea :=
 ⟨(pw_below_drewN (Below.refl _ _) m).setCell h.2 _, (KeepBut.of_below (pw_below_drewN (Below.refl _ _) m) g none : KeepBut w (w.drewN m) g none).set_ 2 (.bool b), (show Rr (w.drewN m) base g A c l at1 b1 er ea from h).put.2 b⟩
theorem Aft.set_at {w w1 : World} {at1 : Int} {b1 : Bool} (h : Aft w w1 base g A c l at1 b1 er ea) (n : Int) : Aft w (w1.setCell ⟨g, 1, none⟩ (.int .i64 n)) base g A c l n b1 er ea :=
 ⟨h.below.setCell h.rd.2 _, h.keep.set_ 1 (.int .i64 n), h.rd.put.1 n⟩
theorem Aft.drewN {w : World} {at1 : Int} {b1 : Bool} (h : Rr w base g A c l at1 b1 er ea) (m : Nat) : Aft w (w.drewN m) base g A c l at1 b1 er ea := (Aft.same h).more (pw_below_drewN (Below.refl _ _) m)
set_option maxHeartbeats 1000000 in
theorem rtake_no (n : Int) (w : World) (h : Rr w base g A c l at_ bad er ea) (a0 : 0 ≤ at_) (a1 : at_ ≤ l.length) (hl : l.length ≤ 1000000) (hn : bad = true ∨ n < 0 ∨ (l.length : Int) - at_ < n) :
  Calls Tryz.prog 66 #[.pointer (some ⟨g, 0, none⟩), .int .i64 n] w fun e w' => e = .returned (.slice none 0 0) ∧ ∃ m, w' = (w.drewN m).setCell ⟨g, 2, none⟩ (.bool true) := by
 obtain ⟨hc0, hc1, hc2⟩ := h.cell
 have hf2 := blk_frozen h.1 2
 clear h
 cases bad with
 | true =>
  clear hn
  go_enter Tryz.func66, Tryz.ntmps66
  go_wp2
  go_quiet (fail)
  go_wp2
  go_ret
  exact ⟨rfl, _, rfl⟩
 | false =>
  rcases Int.lt_or_le n 0 with hn0 | hn0
  ·have hd : decide (n < 0) = true := decide_eq_true hn0
   clear hn
   go_enter Tryz.func66, Tryz.ntmps66
   go_wp2
   go_quiet (fail)
   go_wp2
   go_ret
   exact ⟨rfl, _, rfl⟩
  ·have hd : decide (n < 0) = false := decide_eq_false (by omega)
   have hn1 : (l.length : Int) - at_ < n := by simp at hn; omega
   have hd1 : decide ((l.length : Int) - at_ < n) = true := decide_eq_true hn1
   clear hn
   go_enter Tryz.func66, Tryz.ntmps66
   go_wp2
   go_quiet (fail)
   go_wp2
   go_ret
   exact ⟨rfl, _, rfl⟩
set_option maxHeartbeats 4000000 in
theorem rtake_yes (n : Int) (w : World) (h : Rr w base g A c l at_ false er ea) (hC : Kd.C (Kd.int .u8) w A l.length l) (hcl : l.length ≤ c) (a0 : 0 ≤ at_) (a1 : at_ ≤ l.length) (hl : l.length ≤ 1000000) (h0 : 0 ≤ n) (hn : n ≤ (l.length : Int) - at_) :
  Calls Tryz.prog 66 #[.pointer (some ⟨g, 0, none⟩), .int .i64 n] w fun e w' => ∃ v, e = .returned v ∧ (Kd.int .u8).R 5 w' w.heap.size (fun _ => True) v ((l.take (at_ + n).toNat).drop at_.toNat) ∧ Aft w w' base g A c l (at_ + n) false er ea := by
 obtain ⟨hc0, hc1, hc2⟩ := h.cell
 have HH := Aside0.mk h
 have HCC := Aside0.mk hC
 have hd : decide (n < 0) = false := decide_eq_false (by omega)
 have hd1 : decide ((l.length : Int) - at_ < n) = false := decide_eq_false (by omega)
 clear h hC
 have hw1 : wrap64 (at_ + n) = at_ + n := by unfold wrap64; omega
 have hw2 : IntKind.i64.wrap (at_ + n) = at_ + n := wi64 (by omega) (by omega)
 have hs5 : 0 ≤ at_ + n := by omega
 have hs6 : at_ + n ≤ (c : Int) := by omega
 have hs7 : at_ ≤ max (at_ + n) 0 := by omega
 go_enter Tryz.func66, Tryz.ntmps66
 go_wp2
 go_quiet (fail)
 go_wp2
 have HR1 : Aside0 (Rr (w.drewN nq) base g A c l at_ false er ea) := ⟨HH.out⟩
 have HA1 := Aside0.mk (Aft.drewN HH.out nq)
 have HC1 := Aside0.mk (Kd.C_drewN HCC.out nq)
 have hsz : Aside0 (w.heap.size ≤ (w.drewN nq).heap.size) := ⟨Nat.le_refl _⟩
 generalize w.drewN nq = W at *
 clear hc0 hc1 hc2
 obtain ⟨hc0, hc1, hc2⟩ := HR1.out.cell
 have hcp := Aside0.mk (Kd.C_drew (Kd.C_mid (lo := at_.toNat) (hi := (at_ + n).toNat) HC1.out (by omega) (by omega) hcl))
 have hlm : ((l.take (at_ + n).toNat).drop at_.toNat).length = (at_ + n).toNat - at_.toNat := by rw [List.length_drop, List.length_take]; omega
 have hC' : Kd.C (Kd.int .u8) W.drew (if c = at_.toNat then A else A.map (·.add at_.toNat)) ((l.take (at_ + n).toNat).drop at_.toNat).length ((l.take (at_ + n).toNat).drop at_.toNat) := by
  have e : at_.toNat * (Kd.int .u8).sz = at_.toNat := Nat.mul_one _
  have := hcp.out
  rw [e] at this
  exact this
 have HCp := drumlineref1_Copy.calls (if c = at_.toNat then A else A.map (·.add at_.toNat)) (c - at_.toNat) ((l.take (at_ + n).toNat).drop at_.toNat) ((l.take (at_ + n).toNat).drop at_.toNat) W.drew hC' (by rw [hlm]; omega) (by unfold drumlineref1_Copy.f; rw [if_pos (by rw [hlm]; simp only [List.length_nil]; omega)]; rfl)
 rw [hlm] at HCp
 have HP := Aside0.mk HCp
 clear HCp hC' hcp hlm
 go_region_law (refine goes_ Tryz.func20 (by kernel_rfl) rfl #[.slice (if c = at_.toNat then A else A.map (·.add at_.toNat)) ((at_ + n).toNat - at_.toNat) (c - at_.toNat)] (by first | rfl | decide | simp [Region.wanted]) rfl rfl (by simp only [List.map_toArray, List.map_cons, List.map_nil]; rfl) ?_; refine HP.out.mono ?_; rintro e w1 ⟨v, rfl, ho, hb⟩; have hb0 := Aside0.mk (drew_below hb); have ho0 := Aside0.mk ho; clear ho hb; have d1 := ((HA1.out.more hb0.out).rd.cell).2.1; have df := blk_frozen ((HA1.out.more hb0.out).rd).1 1; refine ⟨_, rfl, ?_⟩)
 all_goals go_wp2
 all_goals
  go_ret
  first
  | exact ⟨_, rfl, Kd.R_lower (Kd.R_mono (Kd.R_far (Kd.R_bound ho0.out) (fun k hk => by have h1 : W.heap.size ≤ k := hk.2.1; have h2 := blk_lt HR1.out.1; show k ≠ g; omega) _) (fun _ _ => trivial)) hsz.out, (HA1.out.more hb0.out).set_at (at_ + n)⟩
  | (subst_vars; exact ⟨_, rfl, Kd.R_lower (Kd.R_mono (Kd.R_far (Kd.R_bound ho0.out) (fun k hk => by have h1 : W.heap.size ≤ k := hk.2.1; have h2 := blk_lt HR1.out.1; show k ≠ g; omega) _) (fun _ _ => trivial)) hsz.out, (HA1.out.more hb0.out).set_at (at_ + n)⟩)
theorem rtake_walk (n : Int) (w : World) (h : Rr w base g A c l at_ bad er ea) (hC : Kd.C (Kd.int .u8) w A l.length l) (hcl : l.length ≤ c) (a0 : 0 ≤ at_) (a1 : at_ ≤ l.length) (hl : l.length ≤ 1000000) :
  Calls Tryz.prog 66 #[.pointer (some ⟨g, 0, none⟩), .int .i64 n] w fun e w' => ∃ v, e = .returned v ∧ (Kd.int .u8).R 5 w' w.heap.size (fun _ => True) v (tk l at_ bad n).1 ∧ Aft w w' base g A c l (tk l at_ bad n).2.1 (tk l at_ bad n).2.2 er ea := by
 unfold tk
 by_cases hn : bad = true ∨ n < 0 ∨ (l.length : Int) - at_ < n
 ·rw [if_pos hn]
  refine (rtake_no n w h a0 a1 hl hn).mono ?_
  rintro e w' ⟨rfl, m, rfl⟩
  exact ⟨_, rfl, Kd.R_nil _ _ _ _ _, Aft.set_bad h m true⟩
 ·rw [if_neg hn]
  simp only [not_or] at hn
  have hb : bad = false := by simpa using hn.1
  subst hb
  refine (rtake_yes n w h hC hcl a0 a1 hl (by omega) (by omega)).mono ?_
  rintro e w' ⟨v, rfl, h1, h2⟩
  exact ⟨v, rfl, h1, h2⟩
set_option maxHeartbeats 1000000 in
theorem rwide_walk (n : Int) (w : World) (h : Rr w base g A c l at_ bad er ea) (hC : Kd.C (Kd.int .u8) w A l.length l) (hcl : l.length ≤ c) (a0 : 0 ≤ at_) (a1 : at_ ≤ l.length) (hl : l.length ≤ 1000000) :
  Calls Tryz.prog 82 #[.pointer (some ⟨g, 0, none⟩), .int .i64 n] w fun e w' => ∃ v, e = .returned v ∧ (Kd.int .u8).R 5 w' w.heap.size (fun _ => True) v (fd l at_ bad n).1 ∧ Aft w w' base g A c l (fd l at_ bad n).2.1 (fd l at_ bad n).2.2 er ea := by
 have HH := Aside0.mk h
 have HCC := Aside0.mk hC
 have HCL := Aside0.mk hcl
 clear h hC hcl
 by_cases hn : 1 ≤ n ∧ n ≤ 7
 ·rw [show fd l at_ bad n = tk l at_ bad n from if_pos hn]
  have d1 : decide (n < 1) = false := decide_eq_false (by omega)
  have d2 : decide (7 < n) = false := decide_eq_false (by omega)
  go_enter Tryz.func82, Tryz.ntmps82
  go_wp2_with fail
  refine (rtake_walk n _ HH.out HCC.out HCL.out a0 a1 hl).mono ?_
  rintro e w1 ⟨v, rfl, ho, hA⟩
  have HO := Aside0.mk ho
  have HA := Aside0.mk hA
  clear ho hA
  go_wp2_with fail
  go_ret
  exact ⟨_, rfl, HO.out, HA.out⟩
 ·rw [show fd l at_ bad n = ([], at_, true) from if_neg hn]
  obtain ⟨hc0, hc1, hc2⟩ := HH.out.cell
  have hf2 := blk_frozen HH.out.1 2
  have HB := Aside0.mk (Aft.set_bad HH.out 0 true)
  have e0 : w.drewN 0 = w := rfl
  rw [e0] at HB
  by_cases h1 : n < 1
  ·have d1 : decide (n < 1) = true := decide_eq_true h1
   clear hn
   go_enter Tryz.func82, Tryz.ntmps82
   go_wp2_with fail
   refine (rtake_no n _ HB.out.rd a0 a1 hl (.inl rfl)).mono ?_
   rintro e w1 ⟨rfl, m, rfl⟩
   go_wp2_with fail
   go_ret
   exact ⟨_, rfl, Kd.R_nil _ _ _ _ _, HB.out.then_ (Aft.set_bad HB.out.rd m true)⟩
  ·have d1 : decide (n < 1) = false := decide_eq_false h1
   have d2 : decide (7 < n) = true := decide_eq_true (by omega)
   clear hn
   go_enter Tryz.func82, Tryz.ntmps82
   go_wp2_with fail
   refine (rtake_no n _ HB.out.rd a0 a1 hl (.inl rfl)).mono ?_
   rintro e w1 ⟨rfl, m, rfl⟩
   go_wp2_with fail
   go_ret
   exact ⟨_, rfl, Kd.R_nil _ _ _ _ _, HB.out.then_ (Aft.set_bad HB.out.rd m true)⟩
theorem rnumber_walk (k : Nat) (n r : Int) (w : World) (h : Rr w base g A c l at_ bad er ea) (hC : Kd.C (Kd.int .u8) w A l.length l) (hcl : l.length ≤ c) (a0 : 0 ≤ at_) (a1 : at_ ≤ l.length) (hl : l.length ≤ 1000000) (hf : drumlineref1_Number.f k (fd l at_ bad n).1 = some r) :
  Calls Tryz.prog 62 #[.pointer (some ⟨g, 0, none⟩), .int .i64 n] w fun e w' => e = .returned (.int .i64 r) ∧ Aft w w' base g A c l (fd l at_ bad n).2.1 (fd l at_ bad n).2.2 er ea := by
 have HH := Aside0.mk h
 have HCC := Aside0.mk hC
 have HCL := Aside0.mk hcl
 have HF := Aside0.mk hf
 clear h hf hC hcl
 go_enter Tryz.func62, Tryz.ntmps62
 go_wp2_with fail
 refine (rwide_walk n _ HH.out HCC.out HCL.out a0 a1 hl).mono ?_
 rintro e w1 ⟨v, rfl, ho, hA⟩
 obtain ⟨A1, c1, rfl⟩ := Kd.R_slice ho
 have HO := Aside0.mk ho
 have HA := Aside0.mk hA
 clear ho hA
 go_wp2_with fail
 refine (drumlineref1_Number.calls k _ _ _ r _ (Kd.R_reads' HO.out).2.2 (Kd.R_reads' HO.out).2.1 HF.out).mono ?_
 rintro e w2 ⟨rfl, hD⟩
 have HD := Aside0.mk hD
 clear hD
 go_wp2_with fail
 go_ret
 exact ⟨rfl, HA.out.more HD.out.below⟩
theorem roffset_walk (k : Nat) (n r : Int) (w : World) (h : Rr w base g A c l at_ bad er ea) (hC : Kd.C (Kd.int .u8) w A l.length l) (hcl : l.length ≤ c) (a0 : 0 ≤ at_) (a1 : at_ ≤ l.length) (hl : l.length ≤ 1000000) (hf : drumlineref1_Offset.f k (fd l at_ bad n).1 = some r) :
  Calls Tryz.prog 64 #[.pointer (some ⟨g, 0, none⟩), .int .i64 n] w fun e w' => e = .returned (.int .i64 r) ∧ Aft w w' base g A c l (fd l at_ bad n).2.1 (fd l at_ bad n).2.2 er ea := by
 have HH := Aside0.mk h
 have HCC := Aside0.mk hC
 have HCL := Aside0.mk hcl
 have HF := Aside0.mk hf
 clear h hf hC hcl
 go_enter Tryz.func64, Tryz.ntmps64
 go_wp2_with fail
 refine (rwide_walk n _ HH.out HCC.out HCL.out a0 a1 hl).mono ?_
 rintro e w1 ⟨v, rfl, ho, hA⟩
 obtain ⟨A1, c1, rfl⟩ := Kd.R_slice ho
 have HO := Aside0.mk ho
 have HA := Aside0.mk hA
 clear ho hA
 go_wp2_with fail
 refine (drumlineref1_Offset.calls k _ _ _ r _ (Kd.R_reads' HO.out).2.2 (Kd.R_reads' HO.out).2.1 HF.out).mono ?_
 rintro e w2 ⟨rfl, hD⟩
 have HD := Aside0.mk hD
 clear hD
 go_wp2_with fail
 go_ret
 exact ⟨rfl, HA.out.more HD.out.below⟩
end Dq
end Go.Proofs.YtaaifdclojkdmaaGreatDoor.MFr
set_option linter.unusedVariables false
set_option linter.unusedSimpArgs false
set_option maxRecDepth 100000
namespace Go.Proofs.YtaaifdclojkdmaaGreatDoor.MFr
open Go.RowKit Go.Extern.Stop Go.Stop Go.Extern Go.Proofs.YtaaifdclojkdmaaGreatDoorW.PrintWords Go.Proofs.YtaaifdclojkdmaaGreatDoorW.PrintLast Go.Proofs.YtaaifdclojkdmaaGreatDoorW.PrintMore
theorem isTypeOfC (v : Value) (w : World) : (ReflectliteType.typeOf #[.iface 66 v]).run Tryz.prog w = .ok (.iface 120 (.agg #[.pointer (some ⟨1, 66, none⟩)])) w := by kernel_rfl
theorem isComparableC (w : World) : ((ReflectliteType.method fun t => do Rtype.noPackHeld "Comparable" t; (fun a => Value.bool a.comparable) <$> typeInfo t) #[.agg #[.pointer (some ⟨1, 66, none⟩)]]).run Tryz.prog w = .ok (.bool true) w := by kernel_rfl
theorem isMethodComparable (v : Value) (w : World) : (Go.method 268 120 v "Comparable").run Tryz.prog w = .ok (113, v) w := by kernel_rfl
theorem noIsF (v : Value) (xT : TypeId) (w : World) : (Instr.typeAssert (.iface 49 v) xT 135 true).run Tryz.prog w = .ok (.tuple #[.nilIface, .bool false]) w := run_typeAssert_lacksB Tryz.underlying135 (by kernel_rfl) (by kernel_rfl) v xT w
theorem noIsC (v : Value) (xT : TypeId) (w : World) : (Instr.typeAssert (.iface 66 v) xT 135 true).run Tryz.prog w = .ok (.tuple #[.nilIface, .bool false]) w := run_typeAssert_lacksB Tryz.underlying135 (by kernel_rfl) (by kernel_rfl) v xT w
theorem hasUnwrapF (v : Value) (xT : TypeId) (w : World) : (Instr.typeAssert (.iface 49 v) xT 127 true).run Tryz.prog w = .ok (.tuple #[.iface 49 v, .bool true]) w := run_typeAssert_hasB Tryz.underlying127 (by kernel_rfl) v xT w
theorem noUnwrapC (v : Value) (xT : TypeId) (w : World) : (Instr.typeAssert (.iface 66 v) xT 127 true).run Tryz.prog w = .ok (.tuple #[.nilIface, .bool false]) w := run_typeAssert_lacksB Tryz.underlying127 (by kernel_rfl) (by kernel_rfl) v xT w
theorem noUnwrapsC (v : Value) (xT : TypeId) (w : World) : (Instr.typeAssert (.iface 66 v) xT 129 true).run Tryz.prog w = .ok (.tuple #[.nilIface, .bool false]) w := run_typeAssert_lacksB Tryz.underlying129 (by kernel_rfl) (by kernel_rfl) v xT w
theorem methodUnwrapF (v : Value) (w : World) : (Go.method 268 49 v "Unwrap").run Tryz.prog w = .ok (106, v) w := by kernel_rfl
theorem eql_codes (a b : Int) (w : World) : (binOp .eql 43 (.iface 66 (.int .i64 a)) (.iface 66 (.int .i64 b))).run Tryz.prog w = .ok (.bool (a == b)) w := by
  obtain ⟨i, hi, hcomp⟩ : ∃ i, Tryz.prog.info? 66 = some i ∧ i.comparable = true := by
    have h : (Tryz.prog.info? 66).map (·.comparable) = some true := by kernel_rfl
    exact Option.map_eq_some_iff.1 h
  have h : ∀ d : Nat, (Op.equalIn (d + 2) 43 (.iface 66 (.int .i64 a)) (.iface 66 (.int .i64 b))).run Tryz.prog w = .ok (a == b) w := fun d => by simp [Op.equalIn, run_underlying Tryz.underlying43, run_underlying Tryz.underlying66, typeInfo, hi, hcomp]
  simp only [binOp]
  simp [Op.equal, Op.maxDepth, h 9998]
def Er (W : World) (m : Nat) (v : Value) (e ea : Int) : Prop :=
  (e = 0 ∧ v = .nilIface) ∨ (e ≠ 0 ∧ ∃ q, m ≤ q ∧ v = .iface 49 (.pointer (some ⟨q, 0, none⟩)) ∧ W.heap[q]? = some (.cells #[.int .i64 ea, .iface 66 (.int .i64 e)] 53 (0, 0)))
theorem is_nil (n : Int) (w : World) :
    Calls Tryz.prog 35 #[.nilIface, .iface 66 (.int .i64 n)] w fun ev w' => ev = .returned (.bool false) ∧ w' = w := by
  have hn := run_eql_iface_nil_left (P := Tryz.prog) w 66 (.int .i64 n) Tryz.underlying43
  go_enter Tryz.func35, Tryz.ntmps35
  go_wp2
  go_ret
  exact ⟨rfl, rfl⟩
theorem is_in (q : Nat) (e ea n : Int) (w : World) (h : w.heap[q]? = some (.cells #[.int .i64 ea, .iface 66 (.int .i64 e)] 53 (0, 0))) :
    Calls Tryz.prog 60 #[.iface 49 (.pointer (some ⟨q, 0, none⟩)), .iface 66 (.int .i64 n), .bool true] w fun ev w' => ev = .returned (.bool (e == n)) ∧ w' = w := by
  have hc : w.cell? ⟨q, 1, none⟩ = some (.iface 66 (.int .i64 e)) := (blk_cell h 1).trans rfl
  have HH := Aside0.mk h
  clear h
  have nF := noIsF
  have nC := noIsC
  have uF := hasUnwrapF
  have uC := noUnwrapC
  have vC := noUnwrapsC
  have mU := methodUnwrapF
  have hty := run_eql_iface_types (P := Tryz.prog) 49 66 (.pointer (some ⟨q, 0, none⟩)) (.int .i64 n) Tryz.underlying43 (by decide) w
  have heq := eql_codes e n w
  obtain ⟨r, hr⟩ : ∃ r, (e == n) = r := ⟨_, rfl⟩
  rw [hr] at heq ⊢
  clear hr
  cases r with
  | true =>
    go_enter Tryz.func60, Tryz.ntmps60
    go_wp2
    refine wp_loop_rounds 2 ?_
    rw [rounds_succ]
    go_wp2
    rw [rounds_succ]
    go_wp2
    go_ret
    exact ⟨rfl, rfl⟩
  | false =>
    go_enter Tryz.func60, Tryz.ntmps60
    go_wp2
    refine wp_loop_rounds 2 ?_
    rw [rounds_succ]
    go_wp2
    rw [rounds_succ]
    go_wp2
    go_ret
    exact ⟨rfl, rfl⟩
theorem is_walk (q : Nat) (e ea n : Int) (w : World) (h : w.heap[q]? = some (.cells #[.int .i64 ea, .iface 66 (.int .i64 e)] 53 (0, 0))) :
    Calls Tryz.prog 35 #[.iface 49 (.pointer (some ⟨q, 0, none⟩)), .iface 66 (.int .i64 n)] w fun ev w' => ev = .returned (.bool (e == n)) ∧ w' = w := by
  have h8 := @run_callFunc_extern Tryz.prog 59 _ ReflectliteType.typeOf Tryz.func59 (by kernel_rfl) (by kernel_rfl) (by kernel_rfl) (by kernel_rfl)
  have h32 := @run_callFunc_extern Tryz.prog 113 _ (ReflectliteType.method fun t => do Rtype.noPackHeld "Comparable" t; pure (.bool (← typeInfo t).comparable)) Tryz.func113 (by kernel_rfl) (by kernel_rfl) (by kernel_rfl) (by kernel_rfl)
  have tT := isTypeOfC
  have cT := isComparableC
  have mR := isMethodComparable
  have HI := Aside0.mk (is_in q e ea n w h)
  clear h
  go_enter Tryz.func35, Tryz.ntmps35
  go_wp2_with (first | (go_at_call 60; refine HI.out.mono ?_; rintro ev w1 ⟨rfl, rfl⟩))
  go_ret
  exact ⟨rfl, rfl⟩
end Go.Proofs.YtaaifdclojkdmaaGreatDoor.MFr
namespace Go.Proofs.YtaaifdclojkdmaaGreatDoor.MFr
open Go.RowKit Go.Proofs.YtaaifdclojkdmaaGreatDoorW.PrintWords Go.Proofs.YtaaifdclojkdmaaGreatDoorW.PrintLast Go.Proofs.YtaaifdclojkdmaaGreatDoorW.PrintMore
attribute [local go_sem] mp_u32s mp_u32m mp_u8s mp_u8m max2_int min2_int max_two min_two max_three min_three max_four min_four
set_option linter.unusedVariables false
set_option linter.unusedSimpArgs false
def wire_put.l0 : Nat → Int → Int → List Int → Int → Int → Option (List Int)
 | 0, _, _, _, _, _ => none
 | k + 1, x0, x1, x5, x10, x11 => if x11 < x10 then (if 0 ≤ (wrap64 (8 * (wrap64 ((wrap64 (x1 - 1)) - x11)))) then (if 0 ≤ x11 then (if x11 < (x5.length : Int) then (wire_put.l0 k x0 x1 (x5.set (x11 : Int).toNat ((shr .i64 x0 (wrap64 (8 * (wrap64 ((wrap64 (x1 - 1)) - x11))))) % 256)) x10 (wrap64 (x11 + 1))) else (none)) else (none)) else (none)) else (some x5)
def wire_put.f (k : Nat) (a0 : Int) (a1 : Int) : Option (List Int) := if 0 ≤ a1 then (if (a1 : Int).toNat ≤ 281474976710656 then ((some (List.replicate (a1 : Int).toNat 0 : List Int)).bind fun y149 => (wire_put.l0 k a0 a1 y149 (y149.length : Int) 0)) else (none)) else (none)
theorem wire_put.mono_l : ∀ k, (∀ y0 y1 y2 y3 y4, LeO (wire_put.l0 k y0 y1 y2 y3 y4) (wire_put.l0 (k + 1) y0 y1 y2 y3 y4))
 | 0 => fun _ _ _ _ _ r h => by simp [wire_put.l0] at h
 | k + 1 => by
  have ih0 := wire_put.mono_l k
  ·intro y0 y1 y2 y3 y4
   unfold wire_put.l0
   repeat' first
   | (with_reducible exact ih0 _ _ _ _ _)
   | (with_reducible exact LeO.refl _)
   | (with_reducible exact LeO.none _)
   | (with_reducible refine LeO.ite ?_ ?_)
   | (with_reducible refine LeO.bind ?_ (fun _ => ?_))
   | exact ih0 _ _ _ _ _
   | exact LeO.none _
   | refine LeO.ite ?_ ?_
   | refine LeO.bind ?_ (fun _ => ?_)
theorem wire_put.mono : ∀ a0 a1 k, LeO (wire_put.f k a0 a1) (wire_put.f (k + 1) a0 a1) := by
 intro a0 a1 k
 have ih0 := wire_put.mono_l k
 unfold wire_put.f
 repeat' first
   | (with_reducible exact ih0 _ _ _ _ _)
   | (with_reducible exact LeO.refl _)
   | (with_reducible exact LeO.none _)
   | (with_reducible refine LeO.ite ?_ ?_)
   | (with_reducible refine LeO.bind ?_ (fun _ => ?_))
   | exact ih0 _ _ _ _ _
   | exact LeO.none _
   | refine LeO.ite ?_ ?_
   | refine LeO.bind ?_ (fun _ => ?_)
set_option maxHeartbeats 8000000 in
set_option maxRecDepth 100000 in
theorem wire_put.calls (k : Nat) (a0 : Int) (a1 : Int) (r : List Int) (w : World) (h : wire_put.f k a0 a1 = some r) :
  Calls Tryz.prog 75 #[.int .i64 a0, .int .i64 a1] w fun e w' => ∃ v0_ : Value, e = .returned (v0_) ∧ Kd.R (Kd.int .u8) 5 w' w.heap.size (fun _ => True) v0_ r ∧ Below w.heap.size w w' := by
 have HB := Aside0.mk (Below.refl w.heap.size w)
 have H : (if 0 ≤ a1 then (if (a1 : Int).toNat ≤ 281474976710656 then ((some (List.replicate (a1 : Int).toNat 0 : List Int)).bind fun y149 => (wire_put.l0 k a0 a1 y149 (y149.length : Int) 0)) else (none)) else (none)) = some r := h
 clear h
 by_cases c3 : 0 ≤ a1
 ·rw [if_pos c3] at H
  have c3b0 := eq_true c3
  have c3b1 : decide (0 ≤ a1) = true := decide_eq_true c3
  clear c3
  by_cases c4 : (a1 : Int).toNat ≤ 281474976710656
  ·rw [if_pos c4] at H
   have c4b0 := eq_true c4
   have c4b1 : decide ((a1 : Int).toNat ≤ 281474976710656) = true := decide_eq_true c4
   clear c4
   obtain ⟨y149, hy149⟩ : ∃ y_ : List Int, y_ = (List.replicate (a1 : Int).toNat 0) := ⟨_, rfl⟩
   replace H : (wire_put.l0 k a0 a1 y149 (y149.length : Int) 0) = some r := by first | (rw [hy149]; with_reducible exact H) | (have H2_ := (Option.bind_some _ _).symm.trans H; rw [hy149]; with_reducible exact H2_) | (have H2_ := (Option.bind_some _ _).symm.trans H; with_reducible exact H2_) | with_reducible exact H | (rw [hy149]; exact H) | exact H
   have Ny149 := Aside0.mk hy149
   clear hy149
   have H' := Aside0.mk H
   clear H
   go_enter Tryz.func75, Tryz.ntmps75
   go_wp2_with (first | ((with_reducible refine gate_dst (N := 8) rfl ?_); refine Kd.R_make (Kd.int .u8) _ 5 rfl (N := 8) rfl 22 _ _ rfl a1 rfl rfl Tryz.underlying22 (.int .u8 0) 1 info5 rfl (by decide) (by omega) 0 (ok := fun _ => True) (okp := fun _ => True) rfl (fun _ hk => hk) trivial (of_decide_eq_true (by first | (with_reducible assumption) | assumption)) (Nat.le_trans (Nat.mul_le_mul_right _ (of_decide_eq_true (by first | (with_reducible assumption) | assumption) : a1.toNat ≤ 281474976710656)) (by omega)) (Below.refl _ _) (Nat.le_refl _) ?_; intro v150 w5 ho6 hb hg_ hnew_; clear hg_ hnew_; (first | rw [← Ny149.out] at ho6 | (simp only [Int.reduceToNat] at ho6; rw [← Ny149.out] at ho6)); have n0_ := Aside0.mk (Kd.R_lower ho6 (below_size (by repeat (first | (with_reducible first | exact HB.out | apply below_alloc | apply pw_below_drewN | apply below_drew1) | exact HB.out)))); have n1_ := Aside0.mk (below_step (by repeat (first | (with_reducible first | exact HB.out | apply below_alloc | apply pw_below_drewN | apply below_drew1) | exact HB.out)) hb); clear HB; have HO151 := n0_; have HB := n1_; clear n0_ n1_; clear hb ho6; obtain ⟨Ao7, co7, eo7⟩ := Kd.R_slice HO151.out; subst eo7))
   go_loopg [11] k (fun kq v11 w' => ∃ (x5_1 : List Int) (x11_1 : Int), v11 = .int .i64 x11_1 ∧ Aside0 (wire_put.l0 kq a0 a1 x5_1 (y149.length : Int) x11_1 = some r) ∧ Aside0 (kq ≤ k) ∧ Aside0 (Kd.R (Kd.int .u8) 5 w' w.heap.size (fun _ => True) (.slice Ao7 y149.length co7) x5_1) ∧ Aside0 (Below w.heap.size w w'))
   case atStart => exact ⟨(y149), (0), (by first | rfl | (simp; done) | (simp [*]; done)), H', ⟨Nat.le_refl _⟩, ⟨by (with_reducible repeat (first | apply Kd.R_alloc | apply Kd.R_drewN | apply Kd.R_drew)); exact HO151.out⟩, ⟨by repeat (first | (with_reducible first | exact HB.out | apply below_alloc | apply pw_below_drewN | apply below_drew1) | exact HB.out)⟩⟩
   case round =>
    clear H'
    try clear p2
    try clear c3
    try clear c3b0
    try clear c3b1
    try clear c4
    try clear c4b0
    try clear c4b1
    try clear c7
    obtain ⟨x5_1, x11_1, rfl, HA, HK1, HO_5, HB⟩ := hrel
    have hl5_1 := (Kd.R_reads' HO_5.out).1
    rw [hl5_1] at HO_5
    (try simp only [hl5_1])
    cases gk with
    | zero => exact absurd HA.out (by simp [wire_put.l0])
    | succ k1 =>
     have H := HA.out
     clear HA
     simp only [wire_put.l0] at H
     by_cases c8 : x11_1 < (y149.length : Int)
     ·rw [if_pos c8] at H
      have c8b0 : decide (x11_1 < (y149.length : Int)) = true := decide_eq_true c8
      clear c8
      obtain ⟨ji9, hji9⟩ : ∃ j_ : Int, (wrap64 (8 * (wrap64 ((wrap64 (a1 - 1)) - x11_1)))) = j_ := ⟨_, rfl⟩
      replace H : (if 0 ≤ (ji9) then (if 0 ≤ x11_1 then (if x11_1 < (x5_1.length : Int) then (wire_put.l0 k1 a0 a1 (x5_1.set (x11_1 : Int).toNat ((shr .i64 a0 (ji9)) % 256)) (y149.length : Int) (wrap64 (x11_1 + 1))) else (none)) else (none)) else (none)) = some r := by first | (rw [hji9] at H; exact H) | (simp only [hji9] at H ⊢; exact H)
      have hji9w : (IntKind.i64.wrap (8 * (wrap64 ((wrap64 (a1 - 1)) - x11_1)))) = ji9 := (i64_w _).trans hji9
      by_cases c10 : 0 ≤ (ji9)
      ·rw [if_pos c10] at H
       have c10b0 := eq_true c10
       have c10b1 : decide (0 ≤ (ji9)) = true := decide_eq_true c10
       clear c10
       obtain ⟨ji11, hji11⟩ : ∃ j_ : Int, (shr .i64 a0 (ji9)) = j_ := ⟨_, rfl⟩
       replace H : (if 0 ≤ x11_1 then (if x11_1 < (x5_1.length : Int) then (wire_put.l0 k1 a0 a1 (x5_1.set (x11_1 : Int).toNat ((ji11) % 256)) (y149.length : Int) (wrap64 (x11_1 + 1))) else (none)) else (none)) = some r := by first | (rw [hji11] at H; exact H) | (simp only [hji11] at H ⊢; exact H)
       have hji11_ : (a0 / 2 ^ min (ji9).toNat 64) = ji11 := hji11
       have hji11z : (ji9) ≤ 64 → (a0 / 2 ^ (ji9).toNat) = ji11 := shr_small hji11
       by_cases c12 : 0 ≤ x11_1
       ·rw [if_pos c12] at H
        have c12b0 : decide (0 ≤ x11_1) = true := decide_eq_true c12
        clear c12
        by_cases c13 : x11_1 < (x5_1.length : Int)
        ·rw [if_pos c13] at H
         have c13b0 : decide (x11_1 < (x5_1.length : Int)) = true := decide_eq_true c13
         clear c13
         obtain ⟨y152, hy152⟩ : ∃ y_ : List Int, y_ = (x5_1.set (x11_1 : Int).toNat ((ji11) % 256)) := ⟨_, rfl⟩
         replace H : (wire_put.l0 k1 a0 a1 y152 (y149.length : Int) (wrap64 (x11_1 + 1))) = some r := by first | (rw [hy152]; with_reducible exact H) | (have H2_ := (Option.bind_some _ _).symm.trans H; rw [hy152]; with_reducible exact H2_) | (have H2_ := (Option.bind_some _ _).symm.trans H; with_reducible exact H2_) | with_reducible exact H | (rw [hy152]; exact H) | exact H
         have Ny152 := Aside0.mk hy152
         clear hy152
         have H' := Aside0.mk H
         clear H
         have p14 : 0 ≤ (x11_1 : Int) := of_decide_eq_true (by first | (with_reducible assumption) | assumption)
         have q14 : (x11_1 : Int) < ((x5_1.length : Int) : Int) := of_decide_eq_true (by first | (with_reducible assumption) | assumption)
         obtain ⟨go14, co14, eo14, gb14, gl14, cl14, HG14⟩ := Kd.R_form HO_5.out (by omega)
         (first | cases eo14 | (injection eo14 with ea_ en_ ec_; (first | subst ea_ | (injection ea_ with ea_; subst ea_)); subst ec_; clear en_))
         have GB14 := Aside0.mk gb14
         have GG14 := Aside0.mk HG14
         clear gb14 gl14 HG14
         obtain ⟨hx14_0, hf14_0⟩ := Kd.R_celln 0 HO_5.out (x11_1 : Int) p14 q14
         replace p14 := eq_true p14
         replace q14 := eq_true q14
         have HP15 := Kd.R_putg HO_5.out (x11_1 : Int) ((ji11) % 256)
         go_wp2_with (first | ((with_reducible refine gate_store (t := 5) (p := 24) rfl ?_); refine store_event (t := 5) (p := 24) (v := ?vo_w16) (w1 := (wr.setCell ⟨go14, (x11_1 : Int).toNat, none⟩ (.int .u8 ((ji11) % 256)))) ?hg ?ho ?hn ?hr ?_; (case ho => rfl); (case hg => rfl); (case hn => rfl); (case hr => first | (go_simp; done) | (go_simp; rfl)); intro w16 hw; have hg : wr.grownBy w16 (some go14) := (by rw [hw]; exact HP15.2); have hp_ : Kd.R (Kd.int .u8) 5 w16 w.heap.size (fun _ => True) (.slice (some ⟨go14, 0, none⟩) x5_1.length co7) y152 := (by rw [hw, Ny152.out]; exact HP15.1); clear HP15; have n0_ := Aside0.mk (hp_); have n1_ := Aside0.mk ((by rw [hw]; exact below_set (HB.out) GB14.out : Below w.heap.size w w16)); clear HO_5; clear HB; have HO_5 := n0_; have HB := n1_; clear n0_ n1_; clear hg hw hp_))
         (try simp only [← hl5_1])
         go_roundg k1
         case measure => have := HK1.out; omega
         case rel => exact ⟨(y152), (wrap64 (x11_1 + 1)), (by first | rfl | (simp; done) | (simp [*]; done)), H', ⟨by have := HK1.out; omega⟩, ⟨by (try simp only [hl5_1]); (with_reducible repeat (first | apply Kd.R_alloc | apply Kd.R_drewN | apply Kd.R_drew)); exact HO_5.out⟩, ⟨by repeat (first | (with_reducible first | exact HB.out | apply below_alloc | apply pw_below_drewN | apply below_drew1) | exact HB.out)⟩⟩
        ·rw [if_neg c13] at H
         exact absurd H (by simp)
       ·rw [if_neg c12] at H
        exact absurd H (by simp)
      ·rw [if_neg c10] at H
       exact absurd H (by simp)
     ·rw [if_neg c8] at H
      have c8b0 : decide (x11_1 < (y149.length : Int)) = false := decide_eq_false c8
      clear c8
      rw [hl5_1] at c8b0
      obtain rfl := Option.some.inj H
      go_wp2
      go_ret
      exact ⟨_, by first | rfl | (simp [errW_none, errW_some] <;> rfl) | (simp [*, errW_none, errW_some] <;> rfl), by (with_reducible repeat (first | apply Kd.R_alloc | apply Kd.R_drewN | apply Kd.R_drew)); exact HO_5.out, by repeat (first | (with_reducible first | exact HB.out | apply below_alloc | apply pw_below_drewN | apply below_drew1) | exact HB.out)⟩
  ·rw [if_neg c4] at H
   exact absurd H (by simp)
 ·rw [if_neg c3] at H
  exact absurd H (by simp)
def wire_Plain.f (k : Nat) (a0 : Int) (a1 : Int) : Option (List Int × Bool) := (wire_right.f a1).bind fun t153 => (if t153 = true then (if a0 < 0 then (some (([] : List Int), false)) else (if 0 ≤ (wrap64 (8 * a1)) then (if a0 ≥ (shl .i64 1 (wrap64 (8 * a1))) then (some (([] : List Int), false)) else ((wire_put.f k a0 a1).bind fun t154 => (some (t154, true)))) else (none))) else (some (([] : List Int), false)))
theorem wire_Plain.mono : ∀ a0 a1 k, LeO (wire_Plain.f k a0 a1) (wire_Plain.f (k + 1) a0 a1) := by
 intro a0 a1 k
 unfold wire_Plain.f
 repeat' first
   | (with_reducible exact wire_put.mono _ _ _)
   | (with_reducible exact LeO.refl _)
   | (with_reducible exact LeO.none _)
   | (with_reducible refine LeO.ite ?_ ?_)
   | (with_reducible refine LeO.bind ?_ (fun _ => ?_))
   | exact wire_put.mono _ _ _
   | exact LeO.none _
   | refine LeO.ite ?_ ?_
   | refine LeO.bind ?_ (fun _ => ?_)
set_option maxHeartbeats 8000000 in
set_option maxRecDepth 100000 in
theorem wire_Plain.calls (k : Nat) (a0 : Int) (a1 : Int) (r1 : List Int) (r2 : Bool) (w : World) (h : wire_Plain.f k a0 a1 = some (r1, r2)) :
  Calls Tryz.prog 50 #[.int .i64 a0, .int .i64 a1] w fun e w' => ∃ v0_ : Value, e = .returned (.tuple #[v0_, .bool r2]) ∧ Kd.R (Kd.int .u8) 5 w' w.heap.size (fun _ => True) v0_ r1 ∧ Below w.heap.size w w' := by
 have HB := Aside0.mk (Below.refl w.heap.size w)
 have H : ((wire_right.f a1).bind fun t153 => (if t153 = true then (if a0 < 0 then (some (([] : List Int), false)) else (if 0 ≤ (wrap64 (8 * a1)) then (if a0 ≥ (shl .i64 1 (wrap64 (8 * a1))) then (some (([] : List Int), false)) else ((wire_put.f k a0 a1).bind fun t154 => (some (t154, true)))) else (none))) else (some (([] : List Int), false)))) = some (r1, r2) := h
 clear h
 replace H := Option.bind_eq_some_iff.mp H
 obtain ⟨t153, A30, H⟩ := H
 replace H : (if t153 = true then (if a0 < 0 then (some (([] : List Int), false)) else (if 0 ≤ (wrap64 (8 * a1)) then (if a0 ≥ (shl .i64 1 (wrap64 (8 * a1))) then (some (([] : List Int), false)) else ((wire_put.f k a0 a1).bind fun t154 => (some (t154, true)))) else (none))) else (some (([] : List Int), false))) = some (r1, r2) := H
 have A3 := Aside0.mk A30
 clear A30
 by_cases c4 : t153 = true
 ·subst c4
  have H1 : (if a0 < 0 then (some (([] : List Int), false)) else (if 0 ≤ (wrap64 (8 * a1)) then (if a0 ≥ (shl .i64 1 (wrap64 (8 * a1))) then (some (([] : List Int), false)) else ((wire_put.f k a0 a1).bind fun t154 => (some (t154, true)))) else (none))) = some (r1, r2) := by rw [if_pos rfl] at H; exact H
  clear H
  have H := H1
  clear H1
  by_cases c5 : a0 < 0
  ·rw [if_pos c5] at H
   have c5b0 : decide (a0 < 0) = true := decide_eq_true c5
   clear c5
   simp only [Option.some.injEq, Prod.mk.injEq] at H
   obtain ⟨rfl, rfl⟩ := H
   go_enter Tryz.func50, Tryz.ntmps50
   go_wp2_with (first | ((with_reducible refine gate_callee (f := 74) rfl ?_); refine goesL_ (some 7) rfl rfl Tryz.func74 (by kernel_rfl) rfl #[.int .i64 a1] rfl (by (try simp only [List.map_toArray, List.map_cons, List.map_nil]); first | done | rfl | (simp only [List.length_drop, List.length_take]; rfl)) ?_; (with_reducible refine (wire_right.calls a1 true _ A3.out).mono ?_); rintro e w' ⟨rfl, ⟨nd, rfl⟩⟩; refine ⟨_, rfl, ?_⟩))
   go_ret2
   exact ⟨_, by first | rfl | (simp [errW_none, errW_some] <;> rfl) | (simp [*, errW_none, errW_some] <;> rfl), by first | exact Kd.R_nil _ _ _ _ _ | exact Kd.N_nil _ _ _ _ _ | exact Kd.V_nil _ _ _ _ _ | exact Kd.Q_nil _ _ _ _ _ | exact Kd.S_nil _ _ _ _ _, by repeat (first | (with_reducible first | exact HB.out | apply below_alloc | apply pw_below_drewN | apply below_drew1) | exact HB.out)⟩
  ·rw [if_neg c5] at H
   have c5b0 : decide (a0 < 0) = false := decide_eq_false c5
   clear c5
   obtain ⟨ji6, hji6⟩ : ∃ j_ : Int, (wrap64 (8 * a1)) = j_ := ⟨_, rfl⟩
   replace H : (if 0 ≤ (ji6) then (if a0 ≥ (shl .i64 1 (ji6)) then (some (([] : List Int), false)) else ((wire_put.f k a0 a1).bind fun t154 => (some (t154, true)))) else (none)) = some (r1, r2) := by first | (rw [hji6] at H; exact H) | (simp only [hji6] at H ⊢; exact H)
   (try rw [hji6] at A3)
   have hji6w : (IntKind.i64.wrap (8 * a1)) = ji6 := (i64_w _).trans hji6
   by_cases c7 : 0 ≤ (ji6)
   ·rw [if_pos c7] at H
    have c7b0 := eq_true c7
    have c7b1 : decide (0 ≤ (ji6)) = true := decide_eq_true c7
    clear c7
    obtain ⟨ji8, hji8⟩ : ∃ j_ : Int, (shl .i64 1 (ji6)) = j_ := ⟨_, rfl⟩
    replace H : (if a0 ≥ (ji8) then (some (([] : List Int), false)) else ((wire_put.f k a0 a1).bind fun t154 => (some (t154, true)))) = some (r1, r2) := by first | (rw [hji8] at H; exact H) | (simp only [hji8] at H ⊢; exact H)
    (try rw [hji8] at A3)
    have hji8_ : (IntKind.i64.wrap (1 * 2 ^ min (ji6).toNat 64)) = ji8 := hji8
    have hji8z : (ji6) ≤ 64 → (IntKind.i64.wrap (1 * 2 ^ (ji6).toNat)) = ji8 := shl_small hji8
    have hji8u : (IntKind.i64.wrap (2 ^ min (ji6).toNat 64)) = ji8 := by have h_ := hji8_; rw [Int.one_mul] at h_; exact h_
    have hji8v : (ji6) ≤ 64 → (IntKind.i64.wrap (2 ^ (ji6).toNat)) = ji8 := fun hle_ => by have h_ := hji8z hle_; rw [Int.one_mul] at h_; exact h_
    have hji8y : (wrap64 (1 * 2 ^ min (ji6).toNat 64)) = ji8 := (i64_w _).symm.trans hji8_
    have hji8x : (ji6) ≤ 64 → (wrap64 (1 * 2 ^ (ji6).toNat)) = ji8 := fun h_ => (i64_w _).symm.trans (hji8z h_)
    by_cases c9 : a0 ≥ (ji8)
    ·rw [if_pos c9] at H
     have c9b0 : decide ((ji8) ≤ a0) = true := decide_eq_true c9
     clear c9
     simp only [Option.some.injEq, Prod.mk.injEq] at H
     obtain ⟨rfl, rfl⟩ := H
     go_enter Tryz.func50, Tryz.ntmps50
     go_wp2_with (first | ((with_reducible refine gate_callee (f := 74) rfl ?_); refine goesL_ (some 7) rfl rfl Tryz.func74 (by kernel_rfl) rfl #[.int .i64 a1] rfl (by (try simp only [List.map_toArray, List.map_cons, List.map_nil]); first | done | rfl | (simp only [List.length_drop, List.length_take]; rfl)) ?_; (with_reducible refine (wire_right.calls a1 true _ A3.out).mono ?_); rintro e w' ⟨rfl, ⟨nd, rfl⟩⟩; refine ⟨_, rfl, ?_⟩))
     go_ret2
     exact ⟨_, by first | rfl | (simp [errW_none, errW_some] <;> rfl) | (simp only [← hji6, ← hji8]; first | rfl | (simp [errW_none, errW_some] <;> rfl)) | (simp [*, errW_none, errW_some] <;> rfl), by first | exact Kd.R_nil _ _ _ _ _ | exact Kd.N_nil _ _ _ _ _ | exact Kd.V_nil _ _ _ _ _ | exact Kd.Q_nil _ _ _ _ _ | exact Kd.S_nil _ _ _ _ _, by repeat (first | (with_reducible first | exact HB.out | apply below_alloc | apply pw_below_drewN | apply below_drew1) | exact HB.out)⟩
    ·rw [if_neg c9] at H
     have c9b0 : decide ((ji8) ≤ a0) = false := decide_eq_false c9
     clear c9
     replace H := Option.bind_eq_some_iff.mp H
     obtain ⟨t154, A100, H⟩ := H
     replace H : (some (t154, true)) = some (r1, r2) := H
     have A10 := Aside0.mk A100
     clear A100
     simp only [Option.some.injEq, Prod.mk.injEq] at H
     obtain ⟨rfl, rfl⟩ := H
     go_enter Tryz.func50, Tryz.ntmps50
     go_wp2_with (first | ((with_reducible refine gate_callee (f := 74) rfl ?_); refine goesL_ (some 7) rfl rfl Tryz.func74 (by kernel_rfl) rfl #[.int .i64 a1] rfl (by (try simp only [List.map_toArray, List.map_cons, List.map_nil]); first | done | rfl | (simp only [List.length_drop, List.length_take]; rfl)) ?_; (with_reducible refine (wire_right.calls a1 true _ A3.out).mono ?_); rintro e w' ⟨rfl, ⟨nd, rfl⟩⟩; refine ⟨_, rfl, ?_⟩) | ((with_reducible refine gate_callee (f := 75) rfl ?_); refine goesL_ (some 22) rfl rfl Tryz.func75 (by kernel_rfl) rfl #[.int .i64 a0, .int .i64 a1] rfl (by (try simp only [List.map_toArray, List.map_cons, List.map_nil]); first | done | rfl | (simp only [List.length_drop, List.length_take]; rfl)) ?_; (with_reducible refine (wire_put.calls k a0 a1 t154 _ A10.out).mono ?_); rintro e w11 ⟨v155, rfl, ho0, hb⟩; refine ⟨_, rfl, ?_⟩; have n0_ := Aside0.mk (Kd.R_lower ho0 (below_size (by repeat (first | (with_reducible first | exact HB.out | apply below_alloc | apply pw_below_drewN | apply below_drew1) | exact HB.out)))); have n1_ := Aside0.mk (below_step (by repeat (first | (with_reducible first | exact HB.out | apply below_alloc | apply pw_below_drewN | apply below_drew1) | exact HB.out)) hb); clear HB; have HO156 := n0_; have HB := n1_; clear n0_ n1_; (try clear hb); (try clear hb2); (try clear hk); (try clear hi); (try clear ho0)))
     go_ret2
     exact ⟨_, by first | rfl | (simp [errW_none, errW_some] <;> rfl) | (simp only [← hji6, ← hji8]; first | rfl | (simp [errW_none, errW_some] <;> rfl)) | (simp [*, errW_none, errW_some] <;> rfl), by (with_reducible repeat (first | apply Kd.R_alloc | apply Kd.R_drewN | apply Kd.R_drew)); exact HO156.out, by repeat (first | (with_reducible first | exact HB.out | apply below_alloc | apply pw_below_drewN | apply below_drew1) | exact HB.out)⟩
   ·rw [if_neg c7] at H
    exact absurd H (by simp)
 ·replace c4 := Bool.eq_false_iff.mpr c4
  subst c4
  have H1 : (some (([] : List Int), false)) = some (r1, r2) := by rw [if_neg (show ¬ (false = true) by decide)] at H; exact H
  clear H
  have H := H1
  clear H1
  simp only [Option.some.injEq, Prod.mk.injEq] at H
  obtain ⟨rfl, rfl⟩ := H
  go_enter Tryz.func50, Tryz.ntmps50
  go_wp2_with (first | ((with_reducible refine gate_callee (f := 74) rfl ?_); refine goesL_ (some 7) rfl rfl Tryz.func74 (by kernel_rfl) rfl #[.int .i64 a1] rfl (by (try simp only [List.map_toArray, List.map_cons, List.map_nil]); first | done | rfl | (simp only [List.length_drop, List.length_take]; rfl)) ?_; (with_reducible refine (wire_right.calls a1 false _ A3.out).mono ?_); rintro e w' ⟨rfl, ⟨nd, rfl⟩⟩; refine ⟨_, rfl, ?_⟩))
  go_ret2
  exact ⟨_, by first | rfl | (simp [errW_none, errW_some] <;> rfl) | (simp [*, errW_none, errW_some] <;> rfl), by first | exact Kd.R_nil _ _ _ _ _ | exact Kd.N_nil _ _ _ _ _ | exact Kd.V_nil _ _ _ _ _ | exact Kd.Q_nil _ _ _ _ _ | exact Kd.S_nil _ _ _ _ _, by repeat (first | (with_reducible first | exact HB.out | apply below_alloc | apply pw_below_drewN | apply below_drew1) | exact HB.out)⟩
end Go.Proofs.YtaaifdclojkdmaaGreatDoor.MFr
