/- Texts of this claim, laid together by a program (wip/g/merge5.py): MWox49, MWox51. -/
import Derived.Test.YtbefbhghmommhaaDoorZHz4
import Derived.Test.YtbefbhghmommhaaDoorZHz10
import Derived.Test.YtbefbhghmommhaaDoorZHz16
namespace Go.Proofs.YtbefbhghmommhaaDoor.MWo
open Go.RowKit Go.Proofs.YtbefbhghmommhaaDoorW.PrintWords Go.Proofs.YtbefbhghmommhaaDoorW.PrintLast Go.Proofs.YtbefbhghmommhaaDoorW.PrintMore
attribute [local go_sem] mp_u32s mp_u32m mp_u8s mp_u8m max2_int min2_int max_two min_two max_three min_three max_four min_four
set_option linter.unusedVariables false
set_option linter.unusedSimpArgs false
def dr1_SameInts.l0 : Nat → List Int → List Int → Int → Option (Bool)
 | 0, _, _, _ => none
 | k + 1, x0, x1, x5 => if x5 < (x0.length : Int) then (if 0 ≤ x5 then (if x5 < (x1.length : Int) then (if (rd x0 x5) = (rd x1 x5) then (dr1_SameInts.l0 k x0 x1 (wrap64 (x5 + 1))) else (some false)) else (none)) else (none)) else (some true)
def dr1_SameInts.f (k : Nat) (l0 : List Int) (l1 : List Int) : Option (Bool) := if (l0.length : Int) = (l1.length : Int) then (dr1_SameInts.l0 k l0 l1 0) else (some false)
set_option maxHeartbeats 8000000 in
set_option maxRecDepth 100000 in
theorem dr1_SameInts.calls (k : Nat) (A0 : Option Addr) (c0 : Nat) (l0 : List Int) (A1 : Option Addr) (c1 : Nat) (l1 : List Int) (r : Bool) (w : World) (hr0 : Kd.C (Kd.int .i64) w A0 l0.length l0) (hc0 : l0.length ≤ c0) (hr1 : Kd.C (Kd.int .i64) w A1 l1.length l1) (hc1 : l1.length ≤ c1) (h : dr1_SameInts.f k l0 l1 = some r) :
  Calls Tryd.prog 9 #[.slice A0 l0.length c0, .slice A1 l1.length c1] w fun e w' => e = .returned (.bool r) ∧ Drawn0 w w' := by
 have HR0 := am hr0
 have HC0 := am hc0
 clear hr0 hc0
 have HR1 := am hr1
 have HC1 := am hc1
 clear hr1 hc1
 have H : (if (l0.length : Int) = (l1.length : Int) then (dr1_SameInts.l0 k l0 l1 0) else (some false)) = some r := h
 clear h
 by_cases c3 : (l0.length : Int) = (l1.length : Int)
 ·rw [if_pos c3] at H
  have c3b0 : ((l0.length : Int) == (l1.length : Int)) = true := beq_iff_eq.mpr c3
  have c3b1 : ((l0.length : Int) != (l1.length : Int)) = false := bne_eq_false_iff_eq.mpr c3
  have c3b2 : (l0.length == l1.length) = true := by first | simpa using c3 | (simp at c3 ⊢; omega)
  clear c3
  have H' := am H
  clear H
  go_enter Tryd.func9, Tryd.ntmps9
  go_wp2
  repeat (go_quiet (fail); try go_wp2)
  go_loopg [5] k (fun kq v5 w' => ∃ (x5_1 : Int), v5 = .int .i64 x5_1 ∧ Aside0 (dr1_SameInts.l0 kq l0 l1 x5_1 = some r) ∧ Aside0 (kq ≤ k) ∧ Drawn0 w w')
  case atStart => exact ⟨(0), bx, H', ⟨Nat.le_refl _⟩, dn⟩
  case round =>
   clear H'
   try clear c1
   try clear p2
   try clear c3
   try clear c3b0
   try clear c3b1
   try clear c3b2
   obtain ⟨x5_1, rfl, HA, HK1, ⟨m1, rfl⟩⟩ := hrel
   cases gk with
   | zero => exact absurd HA.out (by simp [dr1_SameInts.l0])
   | succ k1 =>
    have H := HA.out
    clear HA
    simp only [dr1_SameInts.l0] at H
    by_cases c4 : x5_1 < (l0.length : Int)
    ·rw [if_pos c4] at H
     have c4b0 : decide (x5_1 < (l0.length : Int)) = true := dT c4
     clear c4
     by_cases c5 : 0 ≤ x5_1
     ·rw [if_pos c5] at H
      have c5b0 : decide (0 ≤ x5_1) = true := dT c5
      clear c5
      by_cases c6 : x5_1 < (l1.length : Int)
      ·rw [if_pos c6] at H
       have c6b0 : decide (x5_1 < (l1.length : Int)) = true := dT c6
       clear c6
       by_cases c7 : (rd l0 x5_1) = (rd l1 x5_1)
       ·rw [if_pos c7] at H
        have c7b0 : ((rd l0 x5_1) == (rd l1 x5_1)) = true := beq_iff_eq.mpr c7
        have c7b1 : ((rd l0 x5_1) != (rd l1 x5_1)) = false := bne_eq_false_iff_eq.mpr c7
        clear c7
        have H' := am H
        clear H
        have p199 : 0 ≤ (x5_1 : Int) := oT asm
        have q199 : x5_1 < (l0.length : Int) := oT asm
        obtain ⟨ad199, e199, hx199_0⟩ := Kd.at_int HR0.out x5_1 p199 q199
        cases e199
        replace p199 := eq_true p199
        replace q199 := eq_true q199
        have p200 : 0 ≤ (x5_1 : Int) := oT asm
        have q200 : x5_1 < (l1.length : Int) := oT asm
        obtain ⟨ad200, e200, hx200_0⟩ := Kd.at_int HR1.out x5_1 p200 q200
        cases e200
        replace p200 := eq_true p200
        replace q200 := eq_true q200
        go_wp2
        repeat (go_quiet (fail); try go_wp2)
        go_roundg k1
        case measure => have := HK1.out; omega
        case rel => exact ⟨(wrap64 (x5_1 + 1)), bx, H', ⟨by have := HK1.out; omega⟩, dn⟩
       ·rw [if_neg c7] at H
        have c7b0 : ((rd l0 x5_1) == (rd l1 x5_1)) = false := beq_eq_false_iff_ne.mpr c7
        have c7b1 : ((rd l0 x5_1) != (rd l1 x5_1)) = true := bne_iff_ne.mpr c7
        obtain rfl := Option.some.inj H
        have p199 : 0 ≤ (x5_1 : Int) := oT asm
        have q199 : x5_1 < (l0.length : Int) := oT asm
        obtain ⟨ad199, e199, hx199_0⟩ := Kd.at_int HR0.out x5_1 p199 q199
        cases e199
        replace p199 := eq_true p199
        replace q199 := eq_true q199
        have p200 : 0 ≤ (x5_1 : Int) := oT asm
        have q200 : x5_1 < (l1.length : Int) := oT asm
        obtain ⟨ad200, e200, hx200_0⟩ := Kd.at_int HR1.out x5_1 p200 q200
        cases e200
        replace p200 := eq_true p200
        replace q200 := eq_true q200
        go_wp2
        repeat (go_quiet (fail); try go_wp2)
        go_ret
        exact ⟨sd, dn⟩
      ·rw [if_neg c6] at H
       exact absurd H (by simp)
     ·rw [if_neg c5] at H
      exact absurd H (by simp)
    ·rw [if_neg c4] at H
     have c4b0 : decide (x5_1 < (l0.length : Int)) = false := dF c4
     clear c4
     obtain rfl := Option.some.inj H
     go_wp2
     repeat (go_quiet (fail); try go_wp2)
     go_ret
     exact ⟨sd, dn⟩
 ·rw [if_neg c3] at H
  have c3b0 : ((l0.length : Int) == (l1.length : Int)) = false := beq_eq_false_iff_ne.mpr c3
  have c3b1 : ((l0.length : Int) != (l1.length : Int)) = true := bne_iff_ne.mpr c3
  have c3b2 : (l0.length == l1.length) = false := by first | simpa using c3 | (simp at c3 ⊢; omega)
  obtain rfl := Option.some.inj H
  go_enter Tryd.func9, Tryd.ntmps9
  go_wp2
  repeat (go_quiet (fail); try go_wp2)
  go_ret
  exact ⟨sd, dn⟩
mutual
def dr5_Width.l0 : Nat → Int → Int → List (S43) → List (S39) → Int → Int → Int → Int → Int → Int → Int → Int → Int → Int → Int → Option (Int)
 | 0, _, _, _, _, _, _, _, _, _, _, _, _, _, _, _ => none
 | k + 1, x3, x4, x211000, x211001, x211002, x211003, x211004, x211005, x211006, x211007, x211008, x211009, x211010, x211011, x211012 => if x4 < (x211000.length : Int) then ((dr5_dists.f k x211000 x211001 x211002 x211003 x211004 x211005 x211006 x211007 x211008 x211009 x211010 x211011 x211012 x4).bind fun t212 => (dr5_Width.l1 k x3 x4 t212 0 x211000 x211001 x211002 x211003 x211004 x211005 x211006 x211007 x211008 x211009 x211010 x211011 x211012)) else (some x3)
def dr5_Width.l1 : Nat → Int → Int → List Int → Int → List (S43) → List (S39) → Int → Int → Int → Int → Int → Int → Int → Int → Int → Int → Int → Option (Int)
 | 0, _, _, _, _, _, _, _, _, _, _, _, _, _, _, _, _, _ => none
 | k + 1, x3, x4, x5, x6, x211000, x211001, x211002, x211003, x211004, x211005, x211006, x211007, x211008, x211009, x211010, x211011, x211012 => if x6 < (x5.length : Int) then (if 0 ≤ x6 then (dr5_Width.l1 k (mx x3 (rd x5 x6)) x4 x5 (wrap64 (x6 + 1)) x211000 x211001 x211002 x211003 x211004 x211005 x211006 x211007 x211008 x211009 x211010 x211011 x211012) else (none)) else (dr5_Width.l0 k x3 (wrap64 (x4 + 1)) x211000 x211001 x211002 x211003 x211004 x211005 x211006 x211007 x211008 x211009 x211010 x211011 x211012)
end
def dr5_Width.f (k : Nat) (l0_0 : List (S43)) (l0_1 : List (S39)) (a0_2 : Int) (a0_3 : Int) (a0_4 : Int) (a0_5 : Int) (a0_6 : Int) (a0_7 : Int) (a0_8 : Int) (a0_9 : Int) (a0_10 : Int) (a0_11 : Int) (a0_12 : Int) : Option (Int) := (dr5_Good.f l0_0 l0_1 a0_2 a0_3 a0_4 a0_5 a0_6 a0_7 a0_8 a0_9 a0_10 a0_11 a0_12 0).bind fun t211 => (if t211 = true then (dr5_Width.l0 k 0 0 l0_0 l0_1 a0_2 a0_3 a0_4 a0_5 a0_6 a0_7 a0_8 a0_9 a0_10 a0_11 a0_12) else (some (-1)))
set_option maxHeartbeats 8000000 in
set_option maxRecDepth 100000 in
theorem dr5_Width.calls (k : Nat) (A0_0 : Option Addr) (c0_0 : Nat) (l0_0 : List (S43)) (A0_1 : Option Addr) (c0_1 : Nat) (l0_1 : List (S39)) (a0_2 : Int) (a0_3 : Int) (a0_4 : Int) (a0_5 : Int) (a0_6 : Int) (a0_7 : Int) (a0_8 : Int) (a0_9 : Int) (a0_10 : Int) (a0_11 : Int) (a0_12 : Int) (r : Int) (w : World) (hr0_0 : Kd.C k43 w A0_0 l0_0.length l0_0) (hc0_0 : l0_0.length ≤ c0_0) (hr0_1 : Kd.C k39 w A0_1 l0_1.length l0_1) (hc0_1 : l0_1.length ≤ c0_1) (h : dr5_Width.f k l0_0 l0_1 a0_2 a0_3 a0_4 a0_5 a0_6 a0_7 a0_8 a0_9 a0_10 a0_11 a0_12 = some r) :
  Calls Tryd.prog 13 #[.agg #[.slice A0_0 l0_0.length c0_0, .slice A0_1 l0_1.length c0_1, .int .i64 a0_2, .int .i64 a0_3, .int .i64 a0_4, .int .i64 a0_5, .int .i64 a0_6, .int .i64 a0_7, .int .i64 a0_8, .int .i64 a0_9, .int .i64 a0_10, .int .i64 a0_11, .int .i64 a0_12]] w fun e w' => e = .returned (.int .i64 r) ∧ Below w.heap.size w w' := by
 have hu25 := Tryd.underlying25
 have HR0_0 := am hr0_0
 have HC0_0 := am hc0_0
 clear hr0_0 hc0_0
 have HR0_1 := am hr0_1
 have HC0_1 := am hc0_1
 clear hr0_1 hc0_1
 have HB := am (Below.refl w.heap.size w)
 have H : ((dr5_Good.f l0_0 l0_1 a0_2 a0_3 a0_4 a0_5 a0_6 a0_7 a0_8 a0_9 a0_10 a0_11 a0_12 0).bind fun t211 => (if t211 = true then (dr5_Width.l0 k 0 0 l0_0 l0_1 a0_2 a0_3 a0_4 a0_5 a0_6 a0_7 a0_8 a0_9 a0_10 a0_11 a0_12) else (some (-1)))) = some r := h
 clear h
 replace H := bS H
 obtain ⟨t211, A20, H⟩ := H
 replace H : (if t211 = true then (dr5_Width.l0 k 0 0 l0_0 l0_1 a0_2 a0_3 a0_4 a0_5 a0_6 a0_7 a0_8 a0_9 a0_10 a0_11 a0_12) else (some (-1))) = some r := H
 have A2 := am A20
 clear A20
 by_cases c3 : t211 = true
 ·subst c3
  have H1 : (dr5_Width.l0 k 0 0 l0_0 l0_1 a0_2 a0_3 a0_4 a0_5 a0_6 a0_7 a0_8 a0_9 a0_10 a0_11 a0_12) = some r := by rw [if_pos rfl] at H; exact H
  clear H
  have H := H1
  clear H1
  have H' := am H
  clear H
  go_enter Tryd.func13, Tryd.ntmps13
  go_wp2_with (first | ((with_reducible refine gate_dst (N := 1) rfl ?_); refine bxe 1 #[.slice A0_0 l0_0.length c0_0, .slice A0_1 l0_1.length c0_1, .int .i64 a0_2, .int .i64 a0_3, .int .i64 a0_4, .int .i64 a0_5, .int .i64 a0_6, .int .i64 a0_7, .int .i64 a0_8, .int .i64 a0_9, .int .i64 a0_10, .int .i64 a0_11, .int .i64 a0_12] 25 ?_; intro gb210 hg w4 hbox hb; have n0_ := am (below_step bl0 hb); have n1_ := am (hbox); have n2_ := am (gw0 hg); have n3_ := am (gw0 hg); clear HB; have HB := n0_; have BK210 := n1_; have GW210 := n2_; have GE210 := n3_; clear n0_ n1_ n2_ n3_; clear hb hbox hg; obtain ⟨hcz5_0, hcz5_1, hcz5_2, hcz5_3, hcz5_4, hcz5_5, hcz5_6, hcz5_7, hcz5_8, hcz5_9, hcz5_10, hcz5_11, hcz5_12⟩ := cellsK13 BK210.out; obtain ⟨hfz5_0, hfz5_1, hfz5_2, hfz5_3, hfz5_4, hfz5_5, hfz5_6, hfz5_7, hfz5_8, hfz5_9, hfz5_10, hfz5_11, hfz5_12⟩ := frozK13 BK210.out) | ((with_reducible refine gate_callee (f := 17) rfl ?_); refine goesL_ (some 8) rfl rfl Tryd.func17 (by kernel_rfl) rfl #[.agg #[.slice A0_0 l0_0.length c0_0, .slice A0_1 l0_1.length c0_1, .int .i64 a0_2, .int .i64 a0_3, .int .i64 a0_4, .int .i64 a0_5, .int .i64 a0_6, .int .i64 a0_7, .int .i64 a0_8, .int .i64 a0_9, .int .i64 a0_10, .int .i64 a0_11, .int .i64 a0_12], .int .i64 0] rfl lm ?_; (with_reducible refine (dr5_Good.calls _ _ l0_0 _ _ l0_1 a0_2 a0_3 a0_4 a0_5 a0_6 a0_7 a0_8 a0_9 a0_10 a0_11 a0_12 0 true _ ?side1 ?side2 ?side3 ?side4 A2.out).mono ?_); (case side1 => exact kc HR0_0); (case side2 => exact HC0_0.out); (case side3 => exact kc HR0_1); (case side4 => exact HC0_1.out); rintro e w6 ⟨rfl, hb⟩; refine ⟨_, rfl, ?_⟩; have n0_ := am (blk_below (bk BK210) hb); have n1_ := am (below_step (bl1 GE210) hb); clear BK210; clear HB; have BK210 := n0_; have HB := n1_; clear n0_ n1_; (try clear hb); (try clear hb2); (try clear hk); (try clear hi)))
  go_loopg [3, 4] k (fun kq v3 v4 w' => ∃ (x3_1 : Int) (x4_1 : Int), v3 = .int .i64 x3_1 ∧ v4 = .int .i64 x4_1 ∧ Aside0 (dr5_Width.l0 kq x3_1 x4_1 l0_0 l0_1 a0_2 a0_3 a0_4 a0_5 a0_6 a0_7 a0_8 a0_9 a0_10 a0_11 a0_12 = some r) ∧ Aside0 (kq ≤ k) ∧ Aside0 (w'.heap[gb210]? = some (.cells #[(.slice A0_0 l0_0.length c0_0), (.slice A0_1 l0_1.length c0_1), .int .i64 a0_2, .int .i64 a0_3, .int .i64 a0_4, .int .i64 a0_5, .int .i64 a0_6, .int .i64 a0_7, .int .i64 a0_8, .int .i64 a0_9, .int .i64 a0_10, .int .i64 a0_11, .int .i64 a0_12] 25 (0, 0))) ∧ Aside0 (Below w.heap.size w w'))
  case atStart => exact ⟨(0), (0), bx, bx, H', ⟨Nat.le_refl _⟩, ⟨bk BK210⟩, ⟨bl1 GE210⟩⟩
  case round =>
   clear H'
   try clear c1
   try clear p2
   try clear c3
   try clear hcz5_0 hcz5_1 hcz5_10 hcz5_11 hcz5_12 hcz5_2 hcz5_3 hcz5_4 hcz5_5 hcz5_6 hcz5_7 hcz5_8 hcz5_9
   try clear hfz5_0 hfz5_1 hfz5_10 hfz5_11 hfz5_12 hfz5_2 hfz5_3 hfz5_4 hfz5_5 hfz5_6 hfz5_7 hfz5_8 hfz5_9
   obtain ⟨x3_1, x4_1, rfl, rfl, HA, HK1, BK210, HB⟩ := hrel
   cases gk with
   | zero => exact absurd HA.out (by simp [dr5_Width.l0])
   | succ k1 =>
    have H := HA.out
    clear HA
    simp only [dr5_Width.l0] at H
    by_cases c7 : x4_1 < (l0_0.length : Int)
    ·rw [if_pos c7] at H
     have c7b0 : decide (x4_1 < (l0_0.length : Int)) = true := dT c7
     clear c7
     replace H := bS H
     obtain ⟨t212, A80, H⟩ := H
     replace H : (dr5_Width.l1 k1 x3_1 x4_1 t212 0 l0_0 l0_1 a0_2 a0_3 a0_4 a0_5 a0_6 a0_7 a0_8 a0_9 a0_10 a0_11 a0_12) = some r := H
     have A8 := am A80
     clear A80
     have H' := am H
     clear H
     obtain ⟨hcz9_0, hcz9_1, hcz9_2, hcz9_3, hcz9_4, hcz9_5, hcz9_6, hcz9_7, hcz9_8, hcz9_9, hcz9_10, hcz9_11, hcz9_12⟩ := cellsK13 BK210.out
     obtain ⟨hfz9_0, hfz9_1, hfz9_2, hfz9_3, hfz9_4, hfz9_5, hfz9_6, hfz9_7, hfz9_8, hfz9_9, hfz9_10, hfz9_11, hfz9_12⟩ := frozK13 BK210.out
     go_wp2_with (first | ((with_reducible refine gate_callee (f := 18) rfl ?_); refine goesL_ (some 19) rfl rfl Tryd.func18 (by kernel_rfl) rfl #[.agg #[.slice A0_0 l0_0.length c0_0, .slice A0_1 l0_1.length c0_1, .int .i64 a0_2, .int .i64 a0_3, .int .i64 a0_4, .int .i64 a0_5, .int .i64 a0_6, .int .i64 a0_7, .int .i64 a0_8, .int .i64 a0_9, .int .i64 a0_10, .int .i64 a0_11, .int .i64 a0_12], .int .i64 x4_1] rfl lm ?_; (with_reducible refine (dr5_dists.calls k1 _ _ l0_0 _ _ l0_1 a0_2 a0_3 a0_4 a0_5 a0_6 a0_7 a0_8 a0_9 a0_10 a0_11 a0_12 x4_1 t212 _ ?side1 ?side2 ?side3 ?side4 A8.out).mono ?_); (case side1 => exact kc HR0_0); (case side2 => exact HC0_0.out); (case side3 => exact kc HR0_1); (case side4 => exact HC0_1.out); rintro e w10 ⟨v213, rfl, ho0, hb⟩; refine ⟨_, rfl, ?_⟩; have n0_ := am (Kd.R_lower ho0 (below_size (bl1 GE210))); have n1_ := am (blk_below (bk BK210) hb); have n2_ := am (below_step (bl1 GE210) hb); clear BK210; clear HB; have HO214 := n0_; have BK210 := n1_; have HB := n2_; clear n0_ n1_ n2_; (try clear hb); (try clear hb2); (try clear hk); (try clear hi); (try clear ho0)))
     go_loopg [3, 6] k1 (fun kq v3 v6 w' => ∃ (x3_2 : Int) (x6_2 : Int), v3 = .int .i64 x3_2 ∧ v6 = .int .i64 x6_2 ∧ Aside0 (dr5_Width.l1 kq x3_2 x4_1 t212 x6_2 l0_0 l0_1 a0_2 a0_3 a0_4 a0_5 a0_6 a0_7 a0_8 a0_9 a0_10 a0_11 a0_12 = some r) ∧ Aside0 (kq ≤ k1) ∧ Aside0 (Kd.R (Kd.int .i64) 3 w' w.heap.size (fun _ => True) v213 t212) ∧ Aside0 (w'.heap[gb210]? = some (.cells #[(.slice A0_0 l0_0.length c0_0), (.slice A0_1 l0_1.length c0_1), .int .i64 a0_2, .int .i64 a0_3, .int .i64 a0_4, .int .i64 a0_5, .int .i64 a0_6, .int .i64 a0_7, .int .i64 a0_8, .int .i64 a0_9, .int .i64 a0_10, .int .i64 a0_11, .int .i64 a0_12] 25 (0, 0))) ∧ Aside0 (Below w.heap.size w w'))
     case atStart => exact ⟨(x3_1), (0), bx, bx, H', ⟨Nat.le_refl _⟩, ⟨kr HO214.out⟩, ⟨bk BK210⟩, ⟨bl1 GE210⟩⟩
     case round =>
      clear H'
      try clear c1
      try clear p2
      try clear c3
      try clear c7
      try clear c7b0
      try clear hcz5_0 hcz5_1 hcz5_10 hcz5_11 hcz5_12 hcz5_2 hcz5_3 hcz5_4 hcz5_5 hcz5_6 hcz5_7 hcz5_8 hcz5_9
      try clear hcz9_0 hcz9_1 hcz9_10 hcz9_11 hcz9_12 hcz9_2 hcz9_3 hcz9_4 hcz9_5 hcz9_6 hcz9_7 hcz9_8 hcz9_9
      try clear hfz5_0 hfz5_1 hfz5_10 hfz5_11 hfz5_12 hfz5_2 hfz5_3 hfz5_4 hfz5_5 hfz5_6 hfz5_7 hfz5_8 hfz5_9
      try clear hfz9_0 hfz9_1 hfz9_10 hfz9_11 hfz9_12 hfz9_2 hfz9_3 hfz9_4 hfz9_5 hfz9_6 hfz9_7 hfz9_8 hfz9_9
      try clear p2
      obtain ⟨x3_2, x6_2, rfl, rfl, HA, HK2, HO_5, BK210, HB⟩ := hrel
      cases gk with
      | zero => exact absurd HA.out (by simp [dr5_Width.l1])
      | succ k2 =>
       have H := HA.out
       clear HA
       simp only [dr5_Width.l1] at H
       by_cases c11 : x6_2 < (t212.length : Int)
       ·rw [if_pos c11] at H
        have c11b0 : decide (x6_2 < (t212.length : Int)) = true := dT c11
        clear c11
        by_cases c12 : 0 ≤ x6_2
        ·rw [if_pos c12] at H
         have c12b0 : decide (0 ≤ x6_2) = true := dT c12
         clear c12
         obtain ⟨ji13, hji13⟩ : ∃ j_ : Int, (mx x3_2 (rd t212 x6_2)) = j_ := ⟨_, rfl⟩
         replace H : (dr5_Width.l1 k2 ji13 x4_1 t212 (wrap64 (x6_2 + 1)) l0_0 l0_1 a0_2 a0_3 a0_4 a0_5 a0_6 a0_7 a0_8 a0_9 a0_10 a0_11 a0_12) = some r := by first | (rw [hji13] at H; exact H) | (simp only [hji13] at H ⊢; exact H)
         have hji13_ : (if x3_2 < (rd t212 x6_2) then (rd t212 x6_2) else x3_2) = ji13 := hji13
         have H' := am H
         clear H
         obtain ⟨Ao14, co14, eo14⟩ := Kd.R_slice HO_5.out
         subst eo14
         have p215 : 0 ≤ (x6_2 : Int) := oT asm
         have q215 : x6_2 < (t212.length : Int) := oT asm
         obtain ⟨ad215, e215, hx215_0⟩ := Kd.at_int (Kd.R_reads' HO_5.out).2.2 x6_2 p215 q215
         cases e215
         replace p215 := eq_true p215
         replace q215 := eq_true q215
         go_wp2
         go_roundg k2
         case measure => have := HK1.out; have := HK2.out; omega
         case rel => exact ⟨(ji13), (wrap64 (x6_2 + 1)), (by first | rfl | (simp; done) | (simp only [← hji13] <;> (first | rfl | simp)) | (simp [*]; done)), bx, H', ⟨by have := HK1.out; have := HK2.out; omega⟩, ⟨kr HO_5.out⟩, ⟨bk BK210⟩, ⟨bl1 GE210⟩⟩
        ·rw [if_neg c12] at H
         exact absurd H (by simp)
       ·rw [if_neg c11] at H
        have c11b0 : decide (x6_2 < (t212.length : Int)) = false := dF c11
        clear c11
        have H' := am H
        clear H
        obtain ⟨Ao15, co15, eo15⟩ := Kd.R_slice HO_5.out
        subst eo15
        go_wp2
        go_roundg k2
        case measure => have := HK1.out; have := HK2.out; omega
        case rel => exact ⟨(x3_2), (wrap64 (x4_1 + 1)), bx, bx, H', ⟨by have := HK1.out; have := HK2.out; omega⟩, ⟨bk BK210⟩, ⟨bl1 GE210⟩⟩
    ·rw [if_neg c7] at H
     have c7b0 : decide (x4_1 < (l0_0.length : Int)) = false := dF c7
     clear c7
     obtain rfl := Option.some.inj H
     obtain ⟨hcz16_0, hcz16_1, hcz16_2, hcz16_3, hcz16_4, hcz16_5, hcz16_6, hcz16_7, hcz16_8, hcz16_9, hcz16_10, hcz16_11, hcz16_12⟩ := cellsK13 BK210.out
     obtain ⟨hfz16_0, hfz16_1, hfz16_2, hfz16_3, hfz16_4, hfz16_5, hfz16_6, hfz16_7, hfz16_8, hfz16_9, hfz16_10, hfz16_11, hfz16_12⟩ := frozK13 BK210.out
     go_wp2
     go_ret
     exact ⟨ew, bl1 GE210⟩
 ·replace c3 := Bool.eq_false_iff.mpr c3
  subst c3
  have H1 : (some (-1)) = some r := by rw [if_neg (show ¬ (false = true) by decide)] at H; exact H
  clear H
  have H := H1
  clear H1
  obtain rfl := Option.some.inj H
  go_enter Tryd.func13, Tryd.ntmps13
  go_wp2_with (first | ((with_reducible refine gate_dst (N := 1) rfl ?_); refine bxe 1 #[.slice A0_0 l0_0.length c0_0, .slice A0_1 l0_1.length c0_1, .int .i64 a0_2, .int .i64 a0_3, .int .i64 a0_4, .int .i64 a0_5, .int .i64 a0_6, .int .i64 a0_7, .int .i64 a0_8, .int .i64 a0_9, .int .i64 a0_10, .int .i64 a0_11, .int .i64 a0_12] 25 ?_; intro gb210 hg w17 hbox hb; have n0_ := am (below_step bl0 hb); have n1_ := am (hbox); have n2_ := am (gw0 hg); have n3_ := am (gw0 hg); clear HB; have HB := n0_; have BK210 := n1_; have GW210 := n2_; have GE210 := n3_; clear n0_ n1_ n2_ n3_; clear hb hbox hg; obtain ⟨hcz18_0, hcz18_1, hcz18_2, hcz18_3, hcz18_4, hcz18_5, hcz18_6, hcz18_7, hcz18_8, hcz18_9, hcz18_10, hcz18_11, hcz18_12⟩ := cellsK13 BK210.out; obtain ⟨hfz18_0, hfz18_1, hfz18_2, hfz18_3, hfz18_4, hfz18_5, hfz18_6, hfz18_7, hfz18_8, hfz18_9, hfz18_10, hfz18_11, hfz18_12⟩ := frozK13 BK210.out) | ((with_reducible refine gate_callee (f := 17) rfl ?_); refine goesL_ (some 8) rfl rfl Tryd.func17 (by kernel_rfl) rfl #[.agg #[.slice A0_0 l0_0.length c0_0, .slice A0_1 l0_1.length c0_1, .int .i64 a0_2, .int .i64 a0_3, .int .i64 a0_4, .int .i64 a0_5, .int .i64 a0_6, .int .i64 a0_7, .int .i64 a0_8, .int .i64 a0_9, .int .i64 a0_10, .int .i64 a0_11, .int .i64 a0_12], .int .i64 0] rfl lm ?_; (with_reducible refine (dr5_Good.calls _ _ l0_0 _ _ l0_1 a0_2 a0_3 a0_4 a0_5 a0_6 a0_7 a0_8 a0_9 a0_10 a0_11 a0_12 0 false _ ?side1 ?side2 ?side3 ?side4 A2.out).mono ?_); (case side1 => exact kc HR0_0); (case side2 => exact HC0_0.out); (case side3 => exact kc HR0_1); (case side4 => exact HC0_1.out); rintro e w19 ⟨rfl, hb⟩; refine ⟨_, rfl, ?_⟩; have n0_ := am (blk_below (bk BK210) hb); have n1_ := am (below_step (bl1 GE210) hb); clear BK210; clear HB; have BK210 := n0_; have HB := n1_; clear n0_ n1_; (try clear hb); (try clear hb2); (try clear hk); (try clear hi)))
  go_ret
  exact ⟨ew, bl1 GE210⟩
end Go.Proofs.YtbefbhghmommhaaDoor.MWo
