/- Texts of this claim, laid together by a program (wip/g/merge5.py): MWox59, MWox60, PuRt. -/
import Derived.Test.YtbefbhghmommhaaGreatDoorZWr4
import Derived.Test.YtbefbhghmommhaaGreatDoorZWr19
import Derived.Test.YtbefbhghmommhaaGreatDoorZWr10
namespace Go.Proofs.YtbefbhghmommhaaGreatDoor.MWo
open Go.RowKit Go.Proofs.YtbefbhghmommhaaGreatDoorW.PrintWords Go.Proofs.YtbefbhghmommhaaGreatDoorW.PrintLast Go.Proofs.YtbefbhghmommhaaGreatDoorW.PrintMore
attribute [local go_sem] mp_u32s mp_u32m mp_u8s mp_u8m max2_int min2_int max_two min_two max_three min_three max_four min_four
set_option linter.unusedVariables false
set_option linter.unusedSimpArgs false
mutual
def dr10_Alive.l0 : Nat → List Int → Int → Int → Int → Option (Int)
 | 0, _, _, _, _ => none
 | k + 1, x0, x5, x6, x7 => if x7 < (x0.length : Int) then (dr10_Alive.j1 k x0 x5 x6 x7 (decide (x7 < 6))) else (dr10_Alive.j1 k x0 x5 x6 x7 false)
def dr10_Alive.j1 : Nat → List Int → Int → Int → Int → Bool → Option (Int)
 | 0, _, _, _, _, _ => none
 | k + 1, x0, x5, x6, x7, x17 => if x17 = true then ((dr10_age.f x0 x7 x6).bind fun t197 => (if t197 < x6 then (if 0 ≤ (IntKind.u64.wrap (x7)) then (dr10_Alive.l0 k x0 (Go.bits .or .i64 x5 (shl .i64 1 (IntKind.u64.wrap (x7)))) x6 (wrap64 (x7 + 1))) else (none)) else (dr10_Alive.l0 k x0 x5 x6 (wrap64 (x7 + 1))))) else (some x5)
end
def dr10_Alive.f (k : Nat) (l0 : List Int) (a1 : Int) : Option (Int) := (dr10_bound.f a1).bind fun t196 => (dr10_Alive.l0 k l0 0 t196 0)
set_option maxHeartbeats 8000000 in
set_option maxRecDepth 100000 in
theorem dr10_Alive.calls (k : Nat) (A0 : Option Addr) (c0 : Nat) (l0 : List Int) (a1 : Int) (r : Int) (w : World) (hr0 : Kd.C (Kd.int .i64) w A0 l0.length l0) (hc0 : l0.length ≤ c0) (h : dr10_Alive.f k l0 a1 = some r) :
  Calls Tryz.prog 54 #[.slice A0 l0.length c0, .int .i64 a1] w fun e w' => e = .returned (.int .i64 r) ∧ Below w.heap.size w w' := by
 have HR0 := am hr0
 have HC0 := am hc0
 clear hr0 hc0
 have HB := am (Below.refl w.heap.size w)
 have H : ((dr10_bound.f a1).bind fun t196 => (dr10_Alive.l0 k l0 0 t196 0)) = some r := h
 clear h
 replace H := bS H
 obtain ⟨t196, A30, H⟩ := H
 replace H : (dr10_Alive.l0 k l0 0 t196 0) = some r := H
 have A3 := am A30
 clear A30
 have H' := am H
 clear H
 go_enter Tryz.func54, Tryz.ntmps54
 go_wp2_with (first | ((with_reducible refine gate_callee (f := 69) rfl ?_); refine goesL_ (some 9) rfl rfl Tryz.func69 (by kernel_rfl) rfl #[.int .i64 a1] rfl lm ?_; (with_reducible refine (dr10_bound.calls a1 t196 _ A3.out).mono ?_); rintro e w4 ⟨rfl, hb⟩; refine ⟨_, rfl, ?_⟩; have n0_ := am (below_step bl0 hb); clear HB; have HB := n0_; clear n0_; (try clear hb); (try clear hb2); (try clear hk); (try clear hi)))
 go_loopg [5, 7] k (fun kq v5 v7 w' => ∃ (x5_1 : Int) (x7_1 : Int), v5 = .int .i64 x5_1 ∧ v7 = .int .i64 x7_1 ∧ Aside0 (dr10_Alive.l0 kq l0 x5_1 t196 x7_1 = some r) ∧ Aside0 (kq ≤ k) ∧ Aside0 (Below w.heap.size w w'))
 case atStart => exact ⟨(0), (0), bx, bx, H', ⟨Nat.le_refl _⟩, ⟨bl0⟩⟩
 case round =>
  clear H'
  try clear p2
  obtain ⟨x5_1, x7_1, rfl, rfl, HA, HK1, HB⟩ := hrel
  cases gk with
  | zero => exact absurd HA.out (by simp [dr10_Alive.l0])
  | succ k1 =>
   have H := HA.out
   clear HA
   simp only [dr10_Alive.l0] at H
   have HC5 := am H
   clear H
   go_upto_region 4 with (fail)
   go_cut [17] (fun v17 wc => ∃ (kq : Nat) (x17_4 : Bool), v17 = .bool x17_4 ∧ Aside0 (dr10_Alive.j1 kq l0 x5_1 t196 x7_1 x17_4 = some r) ∧ Aside0 (kq ≤ k1) ∧ Aside0 (Below w.heap.size w wc))
   case first =>
    have H := HC5.out
    clear HC5
    by_cases c6 : x7_1 < (l0.length : Int)
    ·rw [if_pos c6] at H
     have c6b0 : decide (x7_1 < (l0.length : Int)) = true := dT c6
     clear c6
     (first | rw [c6b0] | (simp only [i64_w, i32_w]; rw [c6b0]) | skip)
     have H' := am H
     clear H
     go_wp2
     go_meet
     case rel => exact ⟨_, (decide (x7_1 < 6)), bx, H', ⟨by have := HK1.out; first | omega | exact Nat.le_refl _⟩, ⟨bl0⟩⟩
    ·rw [if_neg c6] at H
     have c6b0 : decide (x7_1 < (l0.length : Int)) = false := dF c6
     clear c6
     (first | rw [c6b0] | (simp only [i64_w, i32_w]; rw [c6b0]) | skip)
     have H' := am H
     clear H
     go_wp2
     go_meet
     case rel => exact ⟨_, (false), bx, H', ⟨by have := HK1.out; first | omega | exact Nat.le_refl _⟩, ⟨bl0⟩⟩
   case rest =>
    clear HC5
    try clear p2
    try clear c5
    try clear c6
    try clear c6b0
    try clear p2
    obtain ⟨kq, x17_4, rfl, HA, HJ4, HB⟩ := hcut
    cases kq with
    | zero => exact absurd HA.out (by simp [dr10_Alive.j1])
    | succ kj4 =>
     have H := HA.out
     clear HA
     simp only [dr10_Alive.j1] at H
     by_cases c7 : x17_4 = true
     ·subst c7
      have H1 : ((dr10_age.f l0 x7_1 t196).bind fun t197 => (if t197 < t196 then (if 0 ≤ (IntKind.u64.wrap (x7_1)) then (dr10_Alive.l0 kj4 l0 (Go.bits .or .i64 x5_1 (shl .i64 1 (IntKind.u64.wrap (x7_1)))) t196 (wrap64 (x7_1 + 1))) else (none)) else (dr10_Alive.l0 kj4 l0 x5_1 t196 (wrap64 (x7_1 + 1))))) = some r := by rw [if_pos rfl] at H; exact H
      clear H
      have H := H1
      clear H1
      replace H := bS H
      obtain ⟨t197, A80, H⟩ := H
      replace H : (if t197 < t196 then (if 0 ≤ (IntKind.u64.wrap (x7_1)) then (dr10_Alive.l0 kj4 l0 (Go.bits .or .i64 x5_1 (shl .i64 1 (IntKind.u64.wrap (x7_1)))) t196 (wrap64 (x7_1 + 1))) else (none)) else (dr10_Alive.l0 kj4 l0 x5_1 t196 (wrap64 (x7_1 + 1)))) = some r := H
      have A8 := am A80
      clear A80
      by_cases c9 : t197 < t196
      ·rw [if_pos c9] at H
       have c9b0 : decide (t197 < t196) = true := dT c9
       clear c9
       obtain ⟨ji10, hji10⟩ : ∃ j_ : Int, (IntKind.u64.wrap (x7_1)) = j_ := ⟨_, rfl⟩
       replace H : (if 0 ≤ (ji10) then (dr10_Alive.l0 kj4 l0 (Go.bits .or .i64 x5_1 (shl .i64 1 (ji10))) t196 (wrap64 (x7_1 + 1))) else (none)) = some r := by first | (rw [hji10] at H; exact H) | (simp only [hji10] at H ⊢; exact H)
       (try rw [hji10] at A8)
       by_cases c11 : 0 ≤ (ji10)
       ·rw [if_pos c11] at H
        have c11b0 := eq_true c11
        have c11b1 : decide (0 ≤ (ji10)) = true := dT c11
        clear c11
        obtain ⟨ji12, hji12⟩ : ∃ j_ : Int, (shl .i64 1 (ji10)) = j_ := ⟨_, rfl⟩
        replace H : (dr10_Alive.l0 kj4 l0 (Go.bits .or .i64 x5_1 (ji12)) t196 (wrap64 (x7_1 + 1))) = some r := by first | (rw [hji12] at H; exact H) | (simp only [hji12] at H ⊢; exact H)
        (try rw [hji12] at A8)
        have hji12_ : (IntKind.i64.wrap (1 * 2 ^ min (ji10).toNat 64)) = ji12 := hji12
        have hji12z : (ji10) ≤ 64 → (IntKind.i64.wrap (1 * 2 ^ (ji10).toNat)) = ji12 := shl_small hji12
        have hji12u : (IntKind.i64.wrap (2 ^ min (ji10).toNat 64)) = ji12 := by have h_ := hji12_; rw [Int.one_mul] at h_; exact h_
        have hji12v : (ji10) ≤ 64 → (IntKind.i64.wrap (2 ^ (ji10).toNat)) = ji12 := fun hle_ => by have h_ := hji12z hle_; rw [Int.one_mul] at h_; exact h_
        have hji12y : (wrap64 (1 * 2 ^ min (ji10).toNat 64)) = ji12 := (i64_w _).symm.trans hji12_
        have hji12x : (ji10) ≤ 64 → (wrap64 (1 * 2 ^ (ji10).toNat)) = ji12 := fun h_ => (i64_w _).symm.trans (hji12z h_)
        have H' := am H
        clear H
        go_wp2_with (first | ((with_reducible refine gate_callee (f := 70) rfl ?_); refine goesL_ (some 23) rfl rfl Tryz.func70 (by kernel_rfl) rfl #[.slice A0 l0.length c0, .int .i64 x7_1, .int .i64 t196] rfl lm ?_; (with_reducible refine (dr10_age.calls _ _ l0 x7_1 t196 t197 _ ?side1 ?side2 A8.out).mono ?_); (case side1 => exact kc HR0); (case side2 => exact HC0.out); rintro e w13 ⟨rfl, hb⟩; refine ⟨_, rfl, ?_⟩; have n0_ := am (below_step bl0 hb); clear HB; have HB := n0_; clear n0_; (try clear hb); (try clear hb2); (try clear hk); (try clear hi)))
        go_roundg kj4
        case measure => have := HK1.out; have := HJ4.out; omega
        case rel => exact ⟨(Go.bits .or .i64 x5_1 (ji12)), (wrap64 (x7_1 + 1)), (by first | rfl | (simp; done) | (simp only [← hji12] <;> (first | rfl | simp)) | (simp [*]; done)), bx, H', ⟨by have := HK1.out; have := HJ4.out; omega⟩, ⟨bl0⟩⟩
       ·rw [if_neg c11] at H
        exact absurd H (by simp)
      ·rw [if_neg c9] at H
       have c9b0 : decide (t197 < t196) = false := dF c9
       clear c9
       have H' := am H
       clear H
       go_wp2_with (first | ((with_reducible refine gate_callee (f := 70) rfl ?_); refine goesL_ (some 23) rfl rfl Tryz.func70 (by kernel_rfl) rfl #[.slice A0 l0.length c0, .int .i64 x7_1, .int .i64 t196] rfl lm ?_; (with_reducible refine (dr10_age.calls _ _ l0 x7_1 t196 t197 _ ?side1 ?side2 A8.out).mono ?_); (case side1 => exact kc HR0); (case side2 => exact HC0.out); rintro e w14 ⟨rfl, hb⟩; refine ⟨_, rfl, ?_⟩; have n0_ := am (below_step bl0 hb); clear HB; have HB := n0_; clear n0_; (try clear hb); (try clear hb2); (try clear hk); (try clear hi)))
       go_roundg kj4
       case measure => have := HK1.out; have := HJ4.out; omega
       case rel => exact ⟨(x5_1), (wrap64 (x7_1 + 1)), bx, bx, H', ⟨by have := HK1.out; have := HJ4.out; omega⟩, ⟨bl0⟩⟩
     ·replace c7 := Bool.eq_false_iff.mpr c7
      subst c7
      have H1 : (some x5_1) = some r := by rw [if_neg (show ¬ (false = true) by decide)] at H; exact H
      clear H
      have H := H1
      clear H1
      obtain rfl := Option.some.inj H
      go_wp2
      go_ret
      exact ⟨ew, bl0⟩
def dr10_Root.l0 : Nat → Int → Int → Option (Int)
 | 0, _, _ => none
 | k + 1, x5, x6 => if x6 < 6 then (if 0 ≤ (IntKind.u64.wrap (x6)) then (if (Go.bits .and .i64 (shr .i64 x5 (IntKind.u64.wrap (x6))) 1) = 1 then (some x6) else (dr10_Root.l0 k x5 (wrap64 (x6 + 1)))) else (none)) else (some (-1))
def dr10_Root.f (k : Nat) (l0 : List Int) (a1 : Int) : Option (Int) := (dr10_Alive.f k l0 a1).bind fun t198 => (dr10_Root.l0 k t198 0)
set_option maxHeartbeats 8000000 in
set_option maxRecDepth 100000 in
theorem dr10_Root.calls (k : Nat) (A0 : Option Addr) (c0 : Nat) (l0 : List Int) (a1 : Int) (r : Int) (w : World) (hr0 : Kd.C (Kd.int .i64) w A0 l0.length l0) (hc0 : l0.length ≤ c0) (h : dr10_Root.f k l0 a1 = some r) :
  Calls Tryz.prog 29 #[.slice A0 l0.length c0, .int .i64 a1] w fun e w' => e = .returned (.int .i64 r) ∧ Below w.heap.size w w' := by
 have HR0 := am hr0
 have HC0 := am hc0
 clear hr0 hc0
 have HB := am (Below.refl w.heap.size w)
 have H : ((dr10_Alive.f k l0 a1).bind fun t198 => (dr10_Root.l0 k t198 0)) = some r := h
 clear h
 replace H := bS H
 obtain ⟨t198, A30, H⟩ := H
 replace H : (dr10_Root.l0 k t198 0) = some r := H
 have A3 := am A30
 clear A30
 have H' := am H
 clear H
 go_enter Tryz.func29, Tryz.ntmps29
 go_wp2_with (first | ((with_reducible refine gate_callee (f := 54) rfl ?_); refine goesL_ (some 9) rfl rfl Tryz.func54 (by kernel_rfl) rfl #[.slice A0 l0.length c0, .int .i64 a1] rfl lm ?_; (with_reducible refine (dr10_Alive.calls k _ _ l0 a1 t198 _ ?side1 ?side2 A3.out).mono ?_); (case side1 => repeat (first | exact HR0.out | (with_reducible refine Kd.C_alloc ?_ _) | (with_reducible refine Kd.C_drewN ?_ _) | (with_reducible refine Kd.C_drew ?_))); (case side2 => exact HC0.out); rintro e w4 ⟨rfl, hb⟩; refine ⟨_, rfl, ?_⟩; have n0_ := am (below_step bl0 hb); clear HB; have HB := n0_; clear n0_; (try clear hb); (try clear hb2); (try clear hk); (try clear hi)))
 go_loopg [6] k (fun kq v6 w' => ∃ (x6_1 : Int), v6 = .int .i64 x6_1 ∧ Aside0 (dr10_Root.l0 kq t198 x6_1 = some r) ∧ Aside0 (kq ≤ k) ∧ Aside0 (Below w.heap.size w w'))
 case atStart => exact ⟨(0), bx, H', ⟨Nat.le_refl _⟩, ⟨bl0⟩⟩
 case round =>
  clear H'
  try clear c2
  try clear p2
  obtain ⟨x6_1, rfl, HA, HK1, HB⟩ := hrel
  cases gk with
  | zero => exact absurd HA.out (by simp [dr10_Root.l0])
  | succ k1 =>
   have H := HA.out
   clear HA
   simp only [dr10_Root.l0] at H
   by_cases c5 : x6_1 < 6
   ·rw [if_pos c5] at H
    have c5b0 : decide (x6_1 < 6) = true := dT c5
    clear c5
    obtain ⟨ji6, hji6⟩ : ∃ j_ : Int, (IntKind.u64.wrap (x6_1)) = j_ := ⟨_, rfl⟩
    replace H : (if 0 ≤ (ji6) then (if (Go.bits .and .i64 (shr .i64 t198 (ji6)) 1) = 1 then (some x6_1) else (dr10_Root.l0 k1 t198 (wrap64 (x6_1 + 1)))) else (none)) = some r := by first | (rw [hji6] at H; exact H) | (simp only [hji6] at H ⊢; exact H)
    by_cases c7 : 0 ≤ (ji6)
    ·rw [if_pos c7] at H
     have c7b0 := eq_true c7
     have c7b1 : decide (0 ≤ (ji6)) = true := dT c7
     clear c7
     obtain ⟨ji8, hji8⟩ : ∃ j_ : Int, (shr .i64 t198 (ji6)) = j_ := ⟨_, rfl⟩
     replace H : (if (Go.bits .and .i64 (ji8) 1) = 1 then (some x6_1) else (dr10_Root.l0 k1 t198 (wrap64 (x6_1 + 1)))) = some r := by first | (rw [hji8] at H; exact H) | (simp only [hji8] at H ⊢; exact H)
     have hji8_ : (t198 / 2 ^ min (ji6).toNat 64) = ji8 := hji8
     have hji8z : (ji6) ≤ 64 → (t198 / 2 ^ (ji6).toNat) = ji8 := shr_small hji8
     by_cases c9 : (Go.bits .and .i64 (ji8) 1) = 1
     ·rw [if_pos c9] at H
      have c9b0 : ((Go.bits .and .i64 (ji8) 1) == 1) = true := beq_iff_eq.mpr c9
      have c9b1 : ((Go.bits .and .i64 (ji8) 1) != 1) = false := bne_eq_false_iff_eq.mpr c9
      clear c9
      obtain rfl := Option.some.inj H
      go_wp2
      go_ret
      exact ⟨by first | rfl | (simp [errW_none, errW_some] <;> rfl) | (simp only [← hji6, ← hji8]; first | rfl | (simp [errW_none, errW_some] <;> rfl)) | (simp [*, errW_none, errW_some] <;> rfl), bl0⟩
     ·rw [if_neg c9] at H
      have c9b0 : ((Go.bits .and .i64 (ji8) 1) == 1) = false := beq_eq_false_iff_ne.mpr c9
      have c9b1 : ((Go.bits .and .i64 (ji8) 1) != 1) = true := bne_iff_ne.mpr c9
      have H' := am H
      clear H
      go_wp2
      go_roundg k1
      case measure => have := HK1.out; omega
      case rel => exact ⟨(wrap64 (x6_1 + 1)), bx, H', ⟨by have := HK1.out; omega⟩, ⟨bl0⟩⟩
    ·rw [if_neg c7] at H
     exact absurd H (by simp)
   ·rw [if_neg c5] at H
    have c5b0 : decide (x6_1 < 6) = false := dF c5
    clear c5
    obtain rfl := Option.some.inj H
    go_wp2
    go_ret
    exact ⟨ew, bl0⟩
end Go.Proofs.YtbefbhghmommhaaGreatDoor.MWo
set_option linter.unusedVariables false
set_option linter.unusedSimpArgs false
namespace Go.Proofs.YtbefbhghmommhaaGreatDoor.Rt
open Go.RowKit Go.Proofs.YtbefbhghmommhaaGreatDoorW.PrintWords Go.Proofs.YtbefbhghmommhaaGreatDoorW.PrintMore Go.Proofs.YtbefbhghmommhaaGreatDoor.Evl Go.Proofs.YtbefbhghmommhaaGreatDoor.MWo
theorem w64 {x : Int} (h1 : -9223372036854775808 ≤ x) (h2 : x ≤ 9223372036854775807) : wrap64 x = x := by
 unfold wrap64; omega
theorem wu64 {x : Int} (h1 : 0 ≤ x) (h2 : x ≤ 18446744073709551615) : IntKind.u64.wrap x = x := by
 simp [IntKind.wrap, IntKind.signed, IntKind.bits]; omega
def bnd (g : Int) : Int := mn (mx g 0) 201
def att (l : List Int) (i g : Int) : Int := if i < 0 then g else if i ≥ (l.length : Int) then g else mn (mx (rd l i) 0) g
def cut6 (l : List Int) : Nat := min l.length 6
def mk (l : List Int) (b : Int) : Nat → Int → Int → Int
 | 0, _, m => m
 | d + 1, i, m => mk l b d (i + 1) (if att l i b < b then Go.bits .or .i64 m (shl .i64 1 i) else m)
def alv (l : List Int) (g : Int) : Int := mk l (bnd g) (cut6 l) 0 0
def rt (m : Int) : Nat → Int → Int
 | 0, _ => -1
 | d + 1, i => if Go.bits .and .i64 (shr .i64 m i) 1 = 1 then i else rt m d (i + 1)
def root (l : List Int) (g : Int) : Int := rt (alv l g) 6 0
theorem bound_eq (g : Int) : ages_bound.f g = some (bnd g) := rfl
theorem at_eq (l : List Int) (i g : Int) : ages_at.f l i g = some (att l i g) := by
 unfold ages_at.f att
 by_cases h : i < 0
 ·rw [if_pos h, if_pos h]
 ·rw [if_neg h, if_neg h]
  by_cases h2 : i ≥ (l.length : Int)
  ·rw [if_pos h2, if_pos h2]
  ·rw [if_neg h2, if_neg h2, if_pos (by omega), if_pos (by omega)]
theorem alive_outer {l : List Int} {g : Int} (d : Nat) :
  ∀ (i m : Int) (n : Int), 0 ≤ i → i + d = n → n ≤ 6 → Evl (fun k => ages_Alive.l0 k l g m n i) (mk l (bnd g) d i m) := by
 induction d with
 | zero =>
  intro i m n h0 h1 h2
  refine Evl.stop (fun k => ?_)
  simp only [ages_Alive.l0, mk]
  rw [if_neg (by omega)]
 | succ d ih =>
  intro i m n h0 h1 h2
  refine Evl.step (fun k => ?_) (ih (i + 1) (if att l i (bnd g) < bnd g then Go.bits .or .i64 m (shl .i64 1 i) else m) n (by omega) (by omega) h2)
  simp only [ages_Alive.l0]
  rw [if_pos (by omega), bound_eq]
  simp only [Option.bind_some]
  rw [at_eq]
  simp only [Option.bind_some]
  rw [w64 (x := i + 1) (by omega) (by omega)]
  by_cases e : att l i (bnd g) < bnd g
  ·rw [if_pos e, if_pos (by omega), if_pos e]
  ·rw [if_neg e, if_neg e]
theorem alv_evl (l : List Int) (g : Int) : Evl (fun k => ages_Alive.f k l g) (alv l g) := by
 have hc : mn (l.length : Int) 6 = (cut6 l : Int) := by unfold mn cut6; split <;> omega
 refine Evl.congr (fun k => ?_) (alive_outer (l := l) (g := g) (cut6 l) 0 0 (cut6 l) (by omega) (by omega) (by unfold cut6; omega))
 unfold ages_Alive.f
 rw [hc]
theorem root_outer {m : Int} (d : Nat) : ∀ i : Int, 0 ≤ i → i + d = 6 → Evl (fun k => ages_Root.l0 k m i) (rt m d i) := by
 induction d with
 | zero =>
  intro i h0 h1
  refine Evl.stop (fun k => ?_)
  simp only [ages_Root.l0, rt]
  rw [if_neg (by omega)]
 | succ d ih =>
  intro i h0 h1
  by_cases e : Go.bits .and .i64 (shr .i64 m i) 1 = 1
  ·refine Evl.stop (fun k => ?_)
   simp only [ages_Root.l0, rt]
   rw [if_pos (by omega), if_pos (by omega), if_pos e, if_pos e]
  ·refine Evl.step (fun k => ?_) (show Evl _ (rt m (d + 1) i) by unfold rt; rw [if_neg e]; exact ih (i + 1) (by omega) (by omega))
   simp only [ages_Root.l0]
   rw [if_pos (by omega), if_pos (by omega), if_neg e, w64 (x := i + 1) (by omega) (by omega)]
theorem root_evl (l : List Int) (g : Int) : Evl (fun k => ages_Root.f k l g) (root l g) := by
 unfold ages_Root.f
 exact Evl.bind (alv_evl l g) (root_outer 6 0 (by omega) (by omega))
theorem ralive_outer {l : List Int} {g : Int} (d : Nat) :
  ∀ (i m : Int), 0 ≤ i → i + d = cut6 l → Evl (fun k => dr10_Alive.l0 k l m (bnd g) i) (mk l (bnd g) d i m) := by
 have hc : (cut6 l : Int) ≤ 6 ∧ (cut6 l : Int) ≤ l.length := by unfold cut6; omega
 induction d with
 | zero =>
  intro i m h0 h1
  refine Evl.step (h := fun k => dr10_Alive.j1 k l m (bnd g) i false) (fun k => ?_) (Evl.stop (fun k => ?_))
  ·simp only [dr10_Alive.l0]
   by_cases e : i < (l.length : Int)
   ·rw [if_pos e, dF (by unfold cut6 at h1; omega)]
   ·rw [if_neg e]
  ·simp only [dr10_Alive.j1, mk]
   rw [if_neg (by simp)]
 | succ d ih =>
  intro i m h0 h1
  refine Evl.step (h := fun k => dr10_Alive.j1 k l m (bnd g) i true) (fun k => ?_) (Evl.step (fun k => ?_) (ih (i + 1) (if att l i (bnd g) < bnd g then Go.bits .or .i64 m (shl .i64 1 i) else m) (by omega) (by omega)))
  ·simp only [dr10_Alive.l0]
   rw [if_pos (by omega), dT (by omega)]
  ·simp only [dr10_Alive.j1]
   have e1 : dr10_age.f l i (bnd g) = some (att l i (bnd g)) := at_eq l i (bnd g)
   simp only [if_true]
   rw [e1]
   simp only [Option.bind_some]
   rw [wu64 (x := i) (by omega) (by omega), w64 (x := i + 1) (by omega) (by omega)]
   by_cases e : att l i (bnd g) < bnd g
   ·rw [if_pos e, if_pos (by omega), if_pos e]
   ·rw [if_neg e, if_neg e]
theorem ralv_evl (l : List Int) (g : Int) : Evl (fun k => dr10_Alive.f k l g) (alv l g) := by
 refine Evl.congr (fun k => ?_) (ralive_outer (l := l) (g := g) (cut6 l) 0 0 (by omega) (by omega))
 unfold dr10_Alive.f
 have e : dr10_bound.f g = some (bnd g) := rfl
 rw [e]
 rfl
theorem rroot_outer {m : Int} (d : Nat) : ∀ i : Int, 0 ≤ i → i + d = 6 → Evl (fun k => dr10_Root.l0 k m i) (rt m d i) := by
 induction d with
 | zero =>
  intro i h0 h1
  refine Evl.stop (fun k => ?_)
  simp only [dr10_Root.l0, rt]
  rw [if_neg (by omega)]
 | succ d ih =>
  intro i h0 h1
  by_cases e : Go.bits .and .i64 (shr .i64 m i) 1 = 1
  ·refine Evl.stop (fun k => ?_)
   simp only [dr10_Root.l0, rt]
   rw [wu64 (x := i) (by omega) (by omega), if_pos (by omega), if_pos (by omega), if_pos e, if_pos e]
  ·refine Evl.step (fun k => ?_) (show Evl _ (rt m (d + 1) i) by unfold rt; rw [if_neg e]; exact ih (i + 1) (by omega) (by omega))
   simp only [dr10_Root.l0]
   rw [wu64 (x := i) (by omega) (by omega), if_pos (by omega), if_pos (by omega), if_neg e, w64 (x := i + 1) (by omega) (by omega)]
theorem rroot_evl (l : List Int) (g : Int) : Evl (fun k => dr10_Root.f k l g) (root l g) := by
 unfold dr10_Root.f
 exact Evl.bind (ralv_evl l g) (rroot_outer 6 0 (by omega) (by omega))
end Go.Proofs.YtbefbhghmommhaaGreatDoor.Rt
