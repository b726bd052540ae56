/- Texts of this claim, laid together by a program (wip/g/merge5.py): MWox80, MWox65, MWox13, MWox14, Hr, MWox15. -/
import Derived.Test.YtbefbhghmommhaaGreatDoorZWd4
namespace Go.Proofs.YtbefbhghmommhaaGreatDoor.MWo
open Go.RowKit Go.Proofs.YtbefbhghmommhaaGreatDoorW.PrintWords Go.Proofs.YtbefbhghmommhaaGreatDoorW.PrintLast Go.Proofs.YtbefbhghmommhaaGreatDoorW.PrintMore
attribute [local go_sem] mp_u32s mp_u32m mp_u8s mp_u8m max2_int min2_int max_two min_two max_three min_three max_four min_four
set_option linter.unusedVariables false
set_option linter.unusedSimpArgs false
def dr26_ports.l0 : Nat → Int → Int → Int → List (S68) → List (S71) → Int → Int → Int → Int → Int → Int → Int → Int → Int → Int → Int → Option (Int)
 | 0, _, _, _, _, _, _, _, _, _, _, _, _, _, _, _, _ => none
 | k + 1, x1, x5, x6, x277000, x277001, x277002, x277003, x277004, x277005, x277006, x277007, x277008, x277009, x277010, x277011, x277012 => if x6 < (x277001.length : Int) then (if 0 ≤ x6 then (if ((rd_T71 x277001 x6).f0) = x1 then (dr26_ports.l0 k x1 (wrap64 (x5 + 2)) (wrap64 (x6 + 1)) x277000 x277001 x277002 x277003 x277004 x277005 x277006 x277007 x277008 x277009 x277010 x277011 x277012) else (if ((rd_T71 x277001 x6).f1) = x1 then (dr26_ports.l0 k x1 (wrap64 (x5 + 2)) (wrap64 (x6 + 1)) x277000 x277001 x277002 x277003 x277004 x277005 x277006 x277007 x277008 x277009 x277010 x277011 x277012) else (dr26_ports.l0 k x1 x5 (wrap64 (x6 + 1)) x277000 x277001 x277002 x277003 x277004 x277005 x277006 x277007 x277008 x277009 x277010 x277011 x277012))) else (none)) else (some x5)
def dr26_ports.f (k : Nat) (l0_0 : List (S68)) (l0_1 : List (S71)) (a0_2 : Int) (a0_3 : Int) (a0_4 : Int) (a0_5 : Int) (a0_6 : Int) (a0_7 : Int) (a0_8 : Int) (a0_9 : Int) (a0_10 : Int) (a0_11 : Int) (a0_12 : Int) (a1 : Int) : Option (Int) := dr26_ports.l0 k a1 0 0 l0_0 l0_1 a0_2 a0_3 a0_4 a0_5 a0_6 a0_7 a0_8 a0_9 a0_10 a0_11 a0_12
set_option maxHeartbeats 8000000 in
set_option maxRecDepth 100000 in
theorem dr26_ports.calls (k : Nat) (A0_0 : Option Addr) (c0_0 : Nat) (l0_0 : List (S68)) (A0_1 : Option Addr) (c0_1 : Nat) (l0_1 : List (S71)) (a0_2 : Int) (a0_3 : Int) (a0_4 : Int) (a0_5 : Int) (a0_6 : Int) (a0_7 : Int) (a0_8 : Int) (a0_9 : Int) (a0_10 : Int) (a0_11 : Int) (a0_12 : Int) (a1 : Int) (r : Int) (w : World) (hr0_0 : Kd.C k68 w A0_0 l0_0.length l0_0) (hc0_0 : l0_0.length ≤ c0_0) (hr0_1 : Kd.C k71 w A0_1 l0_1.length l0_1) (hc0_1 : l0_1.length ≤ c0_1) (h : dr26_ports.f k l0_0 l0_1 a0_2 a0_3 a0_4 a0_5 a0_6 a0_7 a0_8 a0_9 a0_10 a0_11 a0_12 a1 = some r) :
  Calls Tryz.prog 60 #[.agg #[.slice A0_0 l0_0.length c0_0, .slice A0_1 l0_1.length c0_1, .int .i64 a0_2, .int .i64 a0_3, .int .i64 a0_4, .int .i64 a0_5, .int .i64 a0_6, .int .i64 a0_7, .int .i64 a0_8, .int .i64 a0_9, .int .i64 a0_10, .int .i64 a0_11, .int .i64 a0_12], .int .i64 a1] w fun e w' => e = .returned (.int .i64 r) ∧ Below w.heap.size w w' := by
 have hu25 := Tryz.underlying25
 have HR0_0 := am hr0_0
 have HC0_0 := am hc0_0
 clear hr0_0 hc0_0
 have HR0_1 := am hr0_1
 have HC0_1 := am hc0_1
 clear hr0_1 hc0_1
 have HB := am (Below.refl w.heap.size w)
 have H : (dr26_ports.l0 k a1 0 0 l0_0 l0_1 a0_2 a0_3 a0_4 a0_5 a0_6 a0_7 a0_8 a0_9 a0_10 a0_11 a0_12) = some r := h
 clear h
 have H' := am H
 clear H
 go_enter Tryz.func60, Tryz.ntmps60
 go_wp2_with (first | ((with_reducible refine gate_dst (N := 2) rfl ?_); refine bxe 2 #[.slice A0_0 l0_0.length c0_0, .slice A0_1 l0_1.length c0_1, .int .i64 a0_2, .int .i64 a0_3, .int .i64 a0_4, .int .i64 a0_5, .int .i64 a0_6, .int .i64 a0_7, .int .i64 a0_8, .int .i64 a0_9, .int .i64 a0_10, .int .i64 a0_11, .int .i64 a0_12] 25 ?_; intro gb276 hg w3 hbox hb; have n0_ := am (below_step bl0 hb); have n1_ := am (hbox); have n2_ := am (gw0 hg); have n3_ := am (gw0 hg); clear HB; have HB := n0_; have BK276 := n1_; have GW276 := n2_; have GE276 := n3_; clear n0_ n1_ n2_ n3_; clear hb hbox hg))
 go_loopg [5, 6] k (fun kq v5 v6 w' => ∃ (x5_1 : Int) (x6_1 : Int), v5 = .int .i64 x5_1 ∧ v6 = .int .i64 x6_1 ∧ Aside0 (dr26_ports.l0 kq a1 x5_1 x6_1 l0_0 l0_1 a0_2 a0_3 a0_4 a0_5 a0_6 a0_7 a0_8 a0_9 a0_10 a0_11 a0_12 = some r) ∧ Aside0 (kq ≤ k) ∧ Aside0 (w'.heap[gb276]? = some (.cells #[(.slice A0_0 l0_0.length c0_0), (.slice A0_1 l0_1.length c0_1), .int .i64 a0_2, .int .i64 a0_3, .int .i64 a0_4, .int .i64 a0_5, .int .i64 a0_6, .int .i64 a0_7, .int .i64 a0_8, .int .i64 a0_9, .int .i64 a0_10, .int .i64 a0_11, .int .i64 a0_12] 25 (0, 0))) ∧ Aside0 (Below w.heap.size w w'))
 case atStart => exact ⟨(0), (0), bx, bx, H', ⟨Nat.le_refl _⟩, ⟨bk BK276⟩, ⟨bl1 GE276⟩⟩
 case round =>
  clear H'
  try clear p2
  obtain ⟨x5_1, x6_1, rfl, rfl, HA, HK1, BK276, HB⟩ := hrel
  cases gk with
  | zero => exact absurd HA.out (by simp [dr26_ports.l0])
  | succ k1 =>
   have H := HA.out
   clear HA
   simp only [dr26_ports.l0] at H
   by_cases c4 : x6_1 < (l0_1.length : Int)
   ·rw [if_pos c4] at H
    have c4b0 : decide (x6_1 < (l0_1.length : Int)) = true := dT c4
    clear c4
    by_cases c5 : 0 ≤ x6_1
    ·rw [if_pos c5] at H
     have c5b0 : decide (0 ≤ x6_1) = true := dT c5
     clear c5
     by_cases c6 : ((rd_T71 l0_1 x6_1).f0) = a1
     ·rw [if_pos c6] at H
      have c6b0 : (((rd_T71 l0_1 x6_1).f0) == a1) = true := beq_iff_eq.mpr c6
      have c6b1 : (((rd_T71 l0_1 x6_1).f0) != a1) = false := bne_eq_false_iff_eq.mpr c6
      clear c6
      have H' := am H
      clear H
      obtain ⟨hcz7_0, hcz7_1, hcz7_2, hcz7_3, hcz7_4, hcz7_5, hcz7_6, hcz7_7, hcz7_8, hcz7_9, hcz7_10, hcz7_11, hcz7_12⟩ := cellsK13 BK276.out
      obtain ⟨hfz7_0, hfz7_1, hfz7_2, hfz7_3, hfz7_4, hfz7_5, hfz7_6, hfz7_7, hfz7_8, hfz7_9, hfz7_10, hfz7_11, hfz7_12⟩ := frozK13 BK276.out
      have p277 : 0 ≤ (x6_1 : Int) := oT asm
      have q277 : x6_1 < (l0_1.length : Int) := oT asm
      obtain ⟨ad277, e277, hx277_0, hx277_1, hx277_2, hx277_3, hx277_4, hx277_5⟩ := at_T71 HR0_1.out x6_1 p277 q277
      cases e277
      replace hx277_0 := hxk HB hx277_0
      replace hx277_1 := hxk HB hx277_1
      replace hx277_2 := hxk HB hx277_2
      replace hx277_3 := hxk HB hx277_3
      replace hx277_4 := hxk HB hx277_4
      replace hx277_5 := hxk HB hx277_5
      replace p277 := eq_true p277
      replace q277 := eq_true q277
      go_wp2
      go_roundg k1
      case measure => have := HK1.out; omega
      case rel => exact ⟨(wrap64 (x5_1 + 2)), (wrap64 (x6_1 + 1)), bx, bx, H', ⟨by have := HK1.out; omega⟩, ⟨bk BK276⟩, ⟨bl1 GE276⟩⟩
     ·rw [if_neg c6] at H
      have c6b0 : (((rd_T71 l0_1 x6_1).f0) == a1) = false := beq_eq_false_iff_ne.mpr c6
      have c6b1 : (((rd_T71 l0_1 x6_1).f0) != a1) = true := bne_iff_ne.mpr c6
      by_cases c8 : ((rd_T71 l0_1 x6_1).f1) = a1
      ·rw [if_pos c8] at H
       have c8b0 : (((rd_T71 l0_1 x6_1).f1) == a1) = true := beq_iff_eq.mpr c8
       have c8b1 : (((rd_T71 l0_1 x6_1).f1) != a1) = false := bne_eq_false_iff_eq.mpr c8
       clear c8
       have H' := am H
       clear H
       obtain ⟨hcz9_0, hcz9_1, hcz9_2, hcz9_3, hcz9_4, hcz9_5, hcz9_6, hcz9_7, hcz9_8, hcz9_9, hcz9_10, hcz9_11, hcz9_12⟩ := cellsK13 BK276.out
       obtain ⟨hfz9_0, hfz9_1, hfz9_2, hfz9_3, hfz9_4, hfz9_5, hfz9_6, hfz9_7, hfz9_8, hfz9_9, hfz9_10, hfz9_11, hfz9_12⟩ := frozK13 BK276.out
       have p277 : 0 ≤ (x6_1 : Int) := oT asm
       have q277 : x6_1 < (l0_1.length : Int) := oT asm
       obtain ⟨ad277, e277, hx277_0, hx277_1, hx277_2, hx277_3, hx277_4, hx277_5⟩ := at_T71 HR0_1.out x6_1 p277 q277
       cases e277
       replace hx277_0 := hxk HB hx277_0
       replace hx277_1 := hxk HB hx277_1
       replace hx277_2 := hxk HB hx277_2
       replace hx277_3 := hxk HB hx277_3
       replace hx277_4 := hxk HB hx277_4
       replace hx277_5 := hxk HB hx277_5
       replace p277 := eq_true p277
       replace q277 := eq_true q277
       have p278 : 0 ≤ (x6_1 : Int) := oT asm
       have q278 : x6_1 < (l0_1.length : Int) := oT asm
       obtain ⟨ad278, e278, hx278_0, hx278_1, hx278_2, hx278_3, hx278_4, hx278_5⟩ := at_T71 HR0_1.out x6_1 p278 q278
       obtain rfl : ad277 = ad278 := (by injection e278)
       replace hx278_0 := hxk HB hx278_0
       replace hx278_1 := hxk HB hx278_1
       replace hx278_2 := hxk HB hx278_2
       replace hx278_3 := hxk HB hx278_3
       replace hx278_4 := hxk HB hx278_4
       replace hx278_5 := hxk HB hx278_5
       replace p278 := eq_true p278
       replace q278 := eq_true q278
       go_wp2
       go_roundg k1
       case measure => have := HK1.out; omega
       case rel => exact ⟨(wrap64 (x5_1 + 2)), (wrap64 (x6_1 + 1)), bx, bx, H', ⟨by have := HK1.out; omega⟩, ⟨bk BK276⟩, ⟨bl1 GE276⟩⟩
      ·rw [if_neg c8] at H
       have c8b0 : (((rd_T71 l0_1 x6_1).f1) == a1) = false := beq_eq_false_iff_ne.mpr c8
       have c8b1 : (((rd_T71 l0_1 x6_1).f1) != a1) = true := bne_iff_ne.mpr c8
       have H' := am H
       clear H
       obtain ⟨hcz10_0, hcz10_1, hcz10_2, hcz10_3, hcz10_4, hcz10_5, hcz10_6, hcz10_7, hcz10_8, hcz10_9, hcz10_10, hcz10_11, hcz10_12⟩ := cellsK13 BK276.out
       obtain ⟨hfz10_0, hfz10_1, hfz10_2, hfz10_3, hfz10_4, hfz10_5, hfz10_6, hfz10_7, hfz10_8, hfz10_9, hfz10_10, hfz10_11, hfz10_12⟩ := frozK13 BK276.out
       have p277 : 0 ≤ (x6_1 : Int) := oT asm
       have q277 : x6_1 < (l0_1.length : Int) := oT asm
       obtain ⟨ad277, e277, hx277_0, hx277_1, hx277_2, hx277_3, hx277_4, hx277_5⟩ := at_T71 HR0_1.out x6_1 p277 q277
       cases e277
       replace hx277_0 := hxk HB hx277_0
       replace hx277_1 := hxk HB hx277_1
       replace hx277_2 := hxk HB hx277_2
       replace hx277_3 := hxk HB hx277_3
       replace hx277_4 := hxk HB hx277_4
       replace hx277_5 := hxk HB hx277_5
       replace p277 := eq_true p277
       replace q277 := eq_true q277
       have p278 : 0 ≤ (x6_1 : Int) := oT asm
       have q278 : x6_1 < (l0_1.length : Int) := oT asm
       obtain ⟨ad278, e278, hx278_0, hx278_1, hx278_2, hx278_3, hx278_4, hx278_5⟩ := at_T71 HR0_1.out x6_1 p278 q278
       obtain rfl : ad277 = ad278 := (by injection e278)
       replace hx278_0 := hxk HB hx278_0
       replace hx278_1 := hxk HB hx278_1
       replace hx278_2 := hxk HB hx278_2
       replace hx278_3 := hxk HB hx278_3
       replace hx278_4 := hxk HB hx278_4
       replace hx278_5 := hxk HB hx278_5
       replace p278 := eq_true p278
       replace q278 := eq_true q278
       go_wp2
       go_roundg k1
       case measure => have := HK1.out; omega
       case rel => exact ⟨(x5_1), (wrap64 (x6_1 + 1)), bx, bx, H', ⟨by have := HK1.out; omega⟩, ⟨bk BK276⟩, ⟨bl1 GE276⟩⟩
    ·rw [if_neg c5] at H
     exact absurd H (by simp)
   ·rw [if_neg c4] at H
    have c4b0 : decide (x6_1 < (l0_1.length : Int)) = false := dF c4
    clear c4
    obtain rfl := Option.some.inj H
    obtain ⟨hcz11_0, hcz11_1, hcz11_2, hcz11_3, hcz11_4, hcz11_5, hcz11_6, hcz11_7, hcz11_8, hcz11_9, hcz11_10, hcz11_11, hcz11_12⟩ := cellsK13 BK276.out
    obtain ⟨hfz11_0, hfz11_1, hfz11_2, hfz11_3, hfz11_4, hfz11_5, hfz11_6, hfz11_7, hfz11_8, hfz11_9, hfz11_10, hfz11_11, hfz11_12⟩ := frozK13 BK276.out
    go_wp2
    go_ret
    exact ⟨ew, bl1 GE276⟩
def dr5_is.f (a0 : Int) (a1 : Int) : Option (Bool) := if a0 ≥ 0 then (some (decide (a0 < a1))) else (some false)
set_option maxHeartbeats 8000000 in
set_option maxRecDepth 100000 in
theorem dr5_is.calls (a0 : Int) (a1 : Int) (r : Bool) (w : World) (h : dr5_is.f a0 a1 = some r) :
  Calls Tryz.prog 63 #[.int .i64 a0, .int .i64 a1] w fun e w' => e = .returned (.bool r) ∧ Drawn0 w w' := by
 have H : (if a0 ≥ 0 then (some (decide (a0 < a1))) else (some false)) = some r := h
 clear h
 by_cases c3 : a0 ≥ 0
 ·rw [if_pos c3] at H
  have c3b0 : decide (0 ≤ a0) = true := dT c3
  clear c3
  obtain rfl := Option.some.inj H
  go_enter Tryz.func63, Tryz.ntmps63
  go_wp2
  go_ret
  exact ⟨sd, dn⟩
 ·rw [if_neg c3] at H
  have c3b0 : decide (0 ≤ a0) = false := dF c3
  clear c3
  obtain rfl := Option.some.inj H
  go_enter Tryz.func63, Tryz.ntmps63
  go_wp2
  go_ret
  exact ⟨sd, dn⟩
def bits_Mul64.f (a0 : Int) (a1 : Int) : Option (Int × Int) := some (IntKind.u64.wrap ((IntKind.u64.wrap ((IntKind.u64.wrap ((a0 / 4294967296) * (a1 / 4294967296))) + ((IntKind.u64.wrap ((IntKind.u64.wrap ((a0 / 4294967296) * (Go.bits .and .u64 a1 4294967295))) + ((IntKind.u64.wrap ((Go.bits .and .u64 a0 4294967295) * (Go.bits .and .u64 a1 4294967295))) / 4294967296))) / 4294967296))) + ((IntKind.u64.wrap ((Go.bits .and .u64 (IntKind.u64.wrap ((IntKind.u64.wrap ((a0 / 4294967296) * (Go.bits .and .u64 a1 4294967295))) + ((IntKind.u64.wrap ((Go.bits .and .u64 a0 4294967295) * (Go.bits .and .u64 a1 4294967295))) / 4294967296))) 4294967295) + (IntKind.u64.wrap ((Go.bits .and .u64 a0 4294967295) * (a1 / 4294967296))))) / 4294967296)), IntKind.u64.wrap (a0 * a1))
set_option maxHeartbeats 8000000 in
set_option maxRecDepth 100000 in
theorem bits_Mul64.calls (a0 : Int) (a1 : Int) (r1 : Int) (r2 : Int) (w : World) (h : bits_Mul64.f a0 a1 = some (r1, r2)) :
  Calls Tryz.prog 118 #[.int .u64 a0, .int .u64 a1] w fun e w' => e = .returned (.tuple #[.int .u64 r1, .int .u64 r2]) ∧ Drawn0 w w' := by
 have H : (some (IntKind.u64.wrap ((IntKind.u64.wrap ((IntKind.u64.wrap ((a0 / 4294967296) * (a1 / 4294967296))) + ((IntKind.u64.wrap ((IntKind.u64.wrap ((a0 / 4294967296) * (Go.bits .and .u64 a1 4294967295))) + ((IntKind.u64.wrap ((Go.bits .and .u64 a0 4294967295) * (Go.bits .and .u64 a1 4294967295))) / 4294967296))) / 4294967296))) + ((IntKind.u64.wrap ((Go.bits .and .u64 (IntKind.u64.wrap ((IntKind.u64.wrap ((a0 / 4294967296) * (Go.bits .and .u64 a1 4294967295))) + ((IntKind.u64.wrap ((Go.bits .and .u64 a0 4294967295) * (Go.bits .and .u64 a1 4294967295))) / 4294967296))) 4294967295) + (IntKind.u64.wrap ((Go.bits .and .u64 a0 4294967295) * (a1 / 4294967296))))) / 4294967296)), IntKind.u64.wrap (a0 * a1))) = some (r1, r2) := h
 clear h
 simp only [Option.some.injEq, Prod.mk.injEq] at H
 obtain ⟨rfl, rfl⟩ := H
 go_enter Tryz.func118, Tryz.ntmps118
 go_wp2
 go_ret2
 exact ⟨sd, dn⟩
def bits_Mul.f (a0 : Int) (a1 : Int) : Option (Int × Int) := (bits_Mul64.f a0 a1).bind fun bt112 => (some (bt112.1, bt112.2))
set_option maxHeartbeats 8000000 in
set_option maxRecDepth 100000 in
theorem bits_Mul.calls (a0 : Int) (a1 : Int) (r1 : Int) (r2 : Int) (w : World) (h : bits_Mul.f a0 a1 = some (r1, r2)) :
  Calls Tryz.prog 115 #[.int .u64 a0, .int .u64 a1] w fun e w' => e = .returned (.tuple #[.int .u64 r1, .int .u64 r2]) ∧ Drawn0 w w' := by
 have H : ((bits_Mul64.f a0 a1).bind fun bt112 => (some (bt112.1, bt112.2))) = some (r1, r2) := h
 clear h
 replace H := bS H
 obtain ⟨⟨t112, t113⟩, A30, H⟩ := H
 replace H : (some (t112, t113)) = some (r1, r2) := H
 have A3 := am A30
 clear A30
 simp only [Option.some.injEq, Prod.mk.injEq] at H
 obtain ⟨rfl, rfl⟩ := H
 go_enter Tryz.func115, Tryz.ntmps115
 go_wp2_with (first | ((with_reducible refine gate_callee (f := 118) rfl ?_); refine goesL_ (some 25) rfl rfl Tryz.func118 (by kernel_rfl) rfl #[.int .u64 a0, .int .u64 a1] rfl lm ?_; (with_reducible refine (bits_Mul64.calls a0 a1 t112 t113 _ A3.out).mono ?_); rintro e w' ⟨rfl, ⟨nd, rfl⟩⟩; refine ⟨_, rfl, ?_⟩))
 go_ret2
 exact ⟨sd, dn⟩
end Go.Proofs.YtbefbhghmommhaaGreatDoor.MWo
set_option linter.unusedVariables false
set_option linter.unusedSimpArgs false
namespace Go.Proofs.YtbefbhghmommhaaGreatDoor.MWo
open Go.RowKit Go.Proofs.YtbefbhghmommhaaGreatDoorW.PrintWords Go.Proofs.YtbefbhghmommhaaGreatDoorW.PrintLast Go.Proofs.YtbefbhghmommhaaGreatDoorW.PrintMore
theorem mul_one_ {n : Int} (h1 : 1 ≤ n) (h6 : n ≤ 6) : bits_Mul.f 1 n = some (0, n) := by
 rcases (show n = 1 ∨ n = 2 ∨ n = 3 ∨ n = 4 ∨ n = 5 ∨ n = 6 from by omega) with rfl | rfl | rfl | rfl | rfl | rfl <;> kernel_rfl
theorem blk_sets {t : Nat} {g : Nat} : ∀ (vs : List Value) (o : Nat) (w : World) (cur : Array Value), w.heap[g]? = some (.cells cur t (0, 0)) → o + vs.length ≤ cur.size →
  ∃ cur', (w.setCells g o vs).heap[g]? = some (.cells cur' t (0, 0)) ∧ cur'.size = cur.size ∧ (∀ j, j < o → cur'[j]? = cur[j]?) ∧ (∀ j v, vs[j]? = some v → cur'[o + j]? = some v)
 | [], o, w, cur, h, hl => ⟨cur, h, rfl, fun _ _ => rfl, fun j v hj => by simp at hj⟩
 | x :: vs, o, w, cur, h, hl => by
  simp only [List.length_cons] at hl
  have h1 := blk_set h o x
  obtain ⟨cur', h2, h3, h4, h5⟩ := blk_sets vs (o + 1) (w.setCell ⟨g, o, none⟩ x) _ h1 (by simp; omega)
  refine ⟨cur', h2, by rw [h3]; simp, fun j hj => ?_, fun j v hj => ?_⟩
  ·rw [h4 j (by omega)]
   simp [Array.getElem?_setIfInBounds, show ¬ o = j by omega]
  ·cases j with
   | zero =>
    simp at hj
    rw [Nat.add_zero, h4 o (by omega), ← hj]
    simp [Array.getElem?_setIfInBounds, show o < cur.size by omega]
   | succ j =>
    have := h5 j v (by simpa using hj)
    rw [show o + (j + 1) = o + 1 + j by omega]
    exact this
theorem below_sets {B g : Nat} {w0 : World} : ∀ (vs : List Value) (o : Nat) (w : World), Below B w0 w → B ≤ g → Below B w0 (w.setCells g o vs)
 | [], _, _, h, _ => h
 | v :: r, o, w, h, hb => below_sets r (o + 1) _ (h.setCell hb v) hb
def Part (W : World) (B n k : Nat) (v : Int) : Prop := ∃ cur, W.heap[B]? = some (.cells cur 3 (0, 0)) ∧ cur.size = n ∧ ∀ j, j < k → cur[j]? = some (.int .i64 v)
theorem Part.more {W : World} {B n k m : Nat} {v : Int} (h : Part W B n k v) (hm : k + m ≤ n) : Part (W.setCells B k (List.replicate m (.int .i64 v))) B n (k + m) v := by
 obtain ⟨cur, h1, h2, h3⟩ := h
 obtain ⟨cur', g1, g2, g3, g4⟩ := blk_sets (List.replicate m (.int .i64 v)) k W cur h1 (by rw [List.length_replicate, h2]; exact hm)
 refine ⟨cur', g1, by rw [g2, h2], fun j hj => ?_⟩
 by_cases c : j < k
 ·rw [g3 j c, h3 j c]
 ·have := g4 (j - k) (.int .i64 v) (by rw [List.getElem?_replicate, if_pos (by omega)])
  rw [show k + (j - k) = j by omega] at this
  exact this
theorem Part.row {W : World} {B n : Nat} {v : Int} (h : Part W B n n v) (base : Nat) (hb : base ≤ B) (hn : n ≤ 1000) : Kd.R (Kd.int .i64) 3 W base (fun _ => True) (.slice (some ⟨B, 0, none⟩) n n) (List.replicate n v) := by
 obtain ⟨cur, h1, h2, h3⟩ := h
 refine Kd.R_of_own ?_ (fun _ _ => trivial)
 rw [List.length_replicate]
 refine ⟨by simp [encs], .inr ⟨B, n, cur, rfl, hb, h1, Nat.le_refl _, by unfold maxLen; omega, by rw [h2, Nat.mul_one], ?_⟩⟩
 apply List.ext_getElem?
 intro j
 by_cases hj : j < n
 ·rw [List.getElem?_take, if_pos (by omega), Array.getElem?_toList, h3 j hj]
  simp [encs, hj]
 ·rw [List.getElem?_take, if_neg (by omega)]
  symm
  rw [List.getElem?_eq_none_iff]
  simp [encs]
  omega
theorem Part.copy {W : World} {B n k : Nat} {v : Int} (h : Part W B n k v) (hk : k ≤ n) (c1 c2 : Nat) : (Builtin.copy_ #[33, 33] 3 #[.slice (some ⟨B, k, none⟩) (n - k) c1, .slice (some ⟨B, 0, none⟩) k c2]).run Tryz.prog W = .ok (goInt (Nat.min k (n - k))) (W.setCells B k (List.replicate (Nat.min k (n - k)) (.int .i64 v))) := by
 obtain ⟨cur, h1, h2, h3⟩ := h
 have hm1 : Nat.min k (n - k) ≤ k := Nat.min_le_left _ _
 have hm2 : Nat.min k (n - k) ≤ n - k := Nat.min_le_right _ _
 have := run_copy_cells (P := Tryz.prog) W 33 33 3 3 B k (n - k) c1 ⟨B, 0, none⟩ k c2 (List.replicate (Nat.min k (n - k)) (.int .i64 v)) Tryz.underlying33 (by kernel_rfl) (by rw [List.length_replicate])
  (fun j u hj => by
   rw [List.getElem?_replicate] at hj
   split at hj
   ·rename_i hlt
    injection hj with hj
    subst hj
    have e : (⟨B, 0, none⟩ : Addr).add j = ⟨B, j, none⟩ := by simp [Addr.add]; intro h; omega
    rw [e]
    exact (blk_cell h1 j).trans (h3 j (by omega))
   ·cases hj)
  (fun j hj => by
   rw [List.length_replicate] at hj
   rw [blk_cell h1]
   rw [Array.getElem?_eq_getElem (by omega)]
   rfl)
  (fun j hj => blk_frozen h1 _)
  (fun u hu => by rw [List.eq_of_mem_replicate hu]; rfl)
 rw [List.length_replicate] at this
 exact this
set_option maxHeartbeats 4000000 in
set_option maxRecDepth 4000 in
theorem repeat_walk (A0 : Option Addr) (c0 : Nat) (v : Int) (n : Nat) (w : World) (hr : Kd.C (Kd.int .i64) w A0 1 [v]) (h1 : 1 ≤ n) (h6 : n ≤ 6) :
  Calls Tryz.prog 109 #[.slice A0 1 c0, .int .i64 n] w fun e w' => ∃ u, e = .returned u ∧ Kd.R (Kd.int .i64) 3 w' w.heap.size (fun _ => True) u (List.replicate n v) ∧ Below w.heap.size w w' := by
 have HM := am (mul_one_ (n := (n : Int)) (by omega) (by omega))
 have hd0 : decide ((n : Int) < 0) = false := dF (by omega)
 have hd1 : decide ((9223372036854775807 : Int) < (n : Int)) = false := dF (by omega)
 have hm1 : (n : Int) % 18446744073709551616 = n := by omega
 have hm2 : wrap64 (n : Int) = n := by unfold wrap64; omega
 obtain ⟨ad, e, x0⟩ := Kd.at_int hr 0 (by omega) (by omega)
 cases e
 have HX := am x0
 have H1 := am h1
 have H6 := am h6
 clear hr x0 h1 h6
 go_enter Tryz.func109, Tryz.ntmps109
 go_wp2_with fail
 refine (bits_Mul.calls 1 (n : Int) 0 n _ HM.out).mono ?_
 rintro e w1 ⟨rfl, hD⟩
 have HB := am hD.below
 have hx1 : w1.cell? ad = some (.int .i64 v) := (hD.below.cell (p := ad) (block_lt_of_cell HX.out)).trans HX.out
 clear hD
 obtain ⟨i0, hi, hz⟩ := Option.map_eq_some_iff.1 info3
 simp only [Prod.mk.injEq] at hz
 have hmk := run_make (P := Tryz.prog) w1 33 3 i0 (.int .i64 0) Tryz.underlying33 hi hz.1 .i64 .i64 n n (by omega) (Int.le_refl _) (by rw [hz.2.2]; have := H6.out; omega) (by have := H6.out; omega)
 rw [hz.2.1, Nat.mul_one, Int.toNat_natCast] at hmk
 have hP0 : Part (w1.alloc (.cells (madeCells (Value.int IntKind.i64 0).cells n) 3)) w1.heap.size n 0 v := ⟨_, heap_alloc_new _ _, size_madeCells _ _, fun j hj => absurd hj (by omega)⟩
 have HB2 := am (below_alloc HB.out (Obj.cells (madeCells (Value.int IntKind.i64 0).cells n) 3))
 have hx2 : (w1.alloc (.cells (madeCells (Value.int IntKind.i64 0).cells n) 3)).cell? ad = some (.int .i64 v) := ((below_alloc (Below.refl w1.heap.size w1) _).cell (p := ad) (block_lt_of_cell hx1)).trans hx1
 generalize w1.alloc (.cells (madeCells (Value.int IntKind.i64 0).cells n) 3) = w2 at *
 have HBb := am HB.out.size
 generalize w1.heap.size = B at *
 have hcp : (Builtin.copy_ #[33, 33] 3 #[.slice (some ⟨B, 0, none⟩) n n, .slice (some ad) 1 c0]).run Tryz.prog w2 = .ok (goInt 1) (w2.setCells B 0 [.int .i64 v]) := by
  obtain ⟨cur, g1, g2, _⟩ := hP0
  refine run_copy_cells (P := Tryz.prog) w2 33 33 3 3 B 0 n n ad 1 c0 [.int .i64 v] Tryz.underlying33 (by kernel_rfl) (by show 1 = min 1 n; have := H1.out; omega) (fun j u hj => ?_) (fun j hj => ?_) (fun j hj => blk_frozen g1 _) (fun u hu => by rw [List.mem_singleton.1 hu]; rfl)
  ·match j, hj with
   | 0, hj => simp at hj; rw [← hj]; exact hx2
   | j + 1, hj => simp at hj
  ·have hj0 : j = 0 := by simpa using hj
   subst hj0
   rw [blk_cell g1, Array.getElem?_eq_getElem (by have := H1.out; omega)]
   rfl
 have hP1 := am (hP0.more (m := 1) (by have := H1.out; omega))
 have HB3 := am (below_sets [.int .i64 v] 0 w2 HB2.out HBb.out)
 have hsz : i0.size = 1 := hz.2.1
 have HCF := am (fun (k : Nat) (h0 : k < n) => cut_from (P := Tryz.prog) 33 3 .i64 Tryz.underlying33 hi 1 hsz (some ⟨B, 0, none⟩) n n (k : Int) (by omega) (by omega))
 have HCT := am (fun (k : Nat) (h0 : k ≤ n) => cut_to (P := Tryz.prog) 33 3 .i64 Tryz.underlying33 hi (some ⟨B, 0, none⟩) n n (k : Int) (by omega) (by omega) (Nat.le_refl _))
 clear hP0 hx1 hx2 hi hz
 go_wp2_with fail
 clear hcp hmk hm1 hm2 hd0 hd1 HX
 go_loopg [8] n (fun kq v8 w' => ∃ k : Nat, v8 = .int .i64 k ∧ Aside0 (n ≤ kq + k) ∧ Aside0 (1 ≤ k ∧ k ≤ n) ∧ Aside0 (Below w.heap.size w w') ∧ Aside0 (Part w' B n k v))
 case atStart => exact ⟨1, rfl, ⟨by omega⟩, ⟨by have := H1.out; omega⟩, HB3, hP1⟩
 case round =>
  clear HB3 hP1
  obtain ⟨k, rfl, HK, HKn, HBr, hPr⟩ := hrel
  by_cases hk : k < n
  ·have hlt : decide ((k : Int) < (n : Int)) = true := dT (by omega)
   have cf := HCF.out k hk
   have ct := HCT.out k (Nat.le_of_lt hk)
   rw [if_neg (by have := HKn.out; omega)] at cf
   simp only [Int.toNat_natCast, Option.map_some] at cf ct
   rw [show ((⟨B, 0, none⟩ : Addr).add (k * 1)) = ⟨B, k, none⟩ by simp [Addr.add]; intro h; omega] at cf
   have HBd := am (below_drew HBr.out)
   have hPd : Aside0 (Part wr.drew B n k v) := ⟨hPr.out⟩
   have hcp := hPd.out.copy (Nat.le_of_lt hk) (n - k) n
   obtain ⟨m, hm⟩ : ∃ m, Nat.min k (n - k) = m := ⟨_, rfl⟩
   have Hm := am hm
   have HmB : Aside0 (1 ≤ m ∧ k + m ≤ n) := ⟨by have := HKn.out; have h1 := Nat.min_le_right k (n - k); have h2 : Nat.min k (n - k) = min k (n - k) := rfl; omega⟩
   rw [hm] at hcp
   clear hm
   have hw : wrap64 ((k : Int) + (m : Int)) = (k : Int) + m := by have := HmB.out; have := H6.out; unfold wrap64; omega
   cases gk with
   | zero => exact absurd HK.out (by omega)
   | succ k1 =>
   go_wp2_with fail
   refine start_ (n := 10) (S := fun w' => True) (ds := []) #[false, false, false, false, false, false, false, false, false, false] (by kernel_rfl) rfl rfl trivial (fun hHeld => ?_)
   generalize wr.drew = wd at HBd hPd hcp hHeld ⊢
   refine pu 0 38 ?_
   refine pu 1 39 ?_
   refine pu 2 40 ?_
   refine pu 3 41 ?_
   refine pu 4 42 ?_
   refine pu 5 43 ?_
   refine pu 6 44 ?_
   refine on 7 45 (fun K hK => ?_)
   refine value_ (w1 := ?_) (v := ?_) (by rfl) rfl ?_ ?_
   rotate_left 2
   ·go_simp
    constructor
    ·rfl
    ·rfl
   have HB4 := am (below_sets (List.replicate m (.int .i64 v)) k wd HBd.out HBb.out)
   have hP4 := am (hPd.out.more (m := m) HmB.out.2)
   refine hK.out _ _ trivial (fun hHeld => ?_)
   clear hK K
   refine norm_ (a' := ?_) ?_ ?_
   rotate_left
   ·show Act.put _ (some 45) _ = _
    simp only [Act.put, sAa, sBb, sCc, i64_w, i32_w]
    rfl
   refine pu 8 46 ?_
   refine pu 9 8 ?_
   refine done_ (by kernel_rfl) ?_
   go_wp2_with fail
   go_roundg k1
   case measure => have := HK.out; have := HmB.out; omega
   case rel => exact ⟨k + m, (by first | rfl | simp), ⟨by have := HK.out; have := HmB.out; omega⟩, ⟨by have := HmB.out; omega⟩, HB4, hP4⟩
  ·have hkn : k = n := by have := HKn.out; omega
   subst hkn
   have hlt : decide ((k : Int) < (k : Int)) = false := dF (by omega)
   go_wp2_with fail
   go_ret
   exact ⟨_, rfl, hPr.out.row _ HBb.out (by have := H6.out; omega), HBr.out⟩
end Go.Proofs.YtbefbhghmommhaaGreatDoor.MWo
namespace Go.Proofs.YtbefbhghmommhaaGreatDoor.MWo
open Go.RowKit Go.Proofs.YtbefbhghmommhaaGreatDoorW.PrintWords Go.Proofs.YtbefbhghmommhaaGreatDoorW.PrintLast Go.Proofs.YtbefbhghmommhaaGreatDoorW.PrintMore
attribute [local go_sem] mp_u32s mp_u32m mp_u8s mp_u8m max2_int min2_int max_two min_two max_three min_three max_four min_four
set_option linter.unusedVariables false
set_option linter.unusedSimpArgs false
def slices_Repeat_int_int.f (l0 : List Int) (a1 : Int) : Option (List Int) := if l0.length = 1 ∧ 1 ≤ a1 ∧ a1 ≤ 6 then some (List.replicate a1.toNat (l0.headD 0)) else none
theorem slices_Repeat_int_int.calls (A0 : Option Addr) (c0 : Nat) (l0 : List Int) (a1 : Int) (r : List Int) (w : World) (hr0 : Kd.C (Kd.int .i64) w A0 l0.length l0) (hc0 : l0.length ≤ c0) (h : slices_Repeat_int_int.f l0 a1 = some r) :
  Calls Tryz.prog 109 #[.slice A0 l0.length c0, .int .i64 a1] w fun e w' => ∃ v, e = .returned v ∧ Kd.R (Kd.int .i64) 3 w' w.heap.size (fun _ => True) v r ∧ Below w.heap.size w w' := by
 unfold slices_Repeat_int_int.f at h
 split at h
 ·rename_i hc
  obtain ⟨h1, h2, h3⟩ := hc
  injection h with h
  subst h
  obtain ⟨n, hn⟩ := Int.eq_ofNat_of_zero_le (show 0 ≤ a1 by omega)
  subst hn
  match l0, h1 with
  | [v], _ => exact repeat_walk A0 c0 v n w hr0 (by omega) (by omega)
 ·cases h
end Go.Proofs.YtbefbhghmommhaaGreatDoor.MWo
