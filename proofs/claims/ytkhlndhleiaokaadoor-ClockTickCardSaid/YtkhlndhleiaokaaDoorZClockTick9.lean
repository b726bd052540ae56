/- Texts that ClockTick leans on, laid together by a program (wip/d/merge.py): Plain, PuNet, MHox79, PuNum, PuClockTick. -/
import Derived.RowKit
import Derived.Test.YtkhlndhleiaokaaDoorZClockTick6
import Derived.Test.YtkhlndhleiaokaaDoorZClockTick5
import Derived.Test.YtkhlndhleiaokaaDoorZClockTick1
import Derived.Test.YtkhlndhleiaokaaDoorZClockTick7
import Derived.Test.YtkhlndhleiaokaaDoorZClockTick8
namespace Go.Proofs.YtkhlndhleiaokaaDoor.Plain
open Go.RowKit

theorem wf64 {a : Int} (h : (Lit.int .i64 a).wf = true) : -9223372036854775808 ≤ a ∧ a ≤ 9223372036854775807 := by
  simp [Lit.wf, IntKind.min, IntKind.max, IntKind.signed, IntKind.bits] at h; omega
theorem wf32 {a : Int} (h : (Lit.int .i32 a).wf = true) : -2147483648 ≤ a ∧ a ≤ 2147483647 := by
  simp [Lit.wf, IntKind.min, IntKind.max, IntKind.signed, IntKind.bits] at h; omega
theorem wf16 {a : Int} (h : (Lit.int .i16 a).wf = true) : -32768 ≤ a ∧ a ≤ 32767 := by
  simp [Lit.wf, IntKind.min, IntKind.max, IntKind.signed, IntKind.bits] at h; omega
theorem wfu16 {a : Int} (h : (Lit.int .u16 a).wf = true) : 0 ≤ a ∧ a ≤ 65535 := by
  simp [Lit.wf, IntKind.min, IntKind.max, IntKind.signed, IntKind.bits] at h; omega
theorem wfu32 {a : Int} (h : (Lit.int .u32 a).wf = true) : 0 ≤ a ∧ a ≤ 4294967295 := by
  simp [Lit.wf, IntKind.min, IntKind.max, IntKind.signed, IntKind.bits] at h; omega
theorem wfu8 {a : Int} (h : (Lit.int .u8 a).wf = true) : 0 ≤ a ∧ a ≤ 255 := by
  simp [Lit.wf, IntKind.min, IntKind.max, IntKind.signed, IntKind.bits] at h; omega

theorem w64 {x : Int} (h1 : -9223372036854775808 ≤ x) (h2 : x ≤ 9223372036854775807) : wrap64 x = x := by
  unfold wrap64; omega

/-- What truncation gives of a number and one above 0. -/
theorem tdiv_le {a b : Int} (hb : 1 ≤ b) (h1 : -9223372036854775808 ≤ a) (h2 : a ≤ 9223372036854775807) : -9223372036854775808 ≤ Int.tdiv a b ∧ Int.tdiv a b ≤ 9223372036854775807 := by
  rcases Int.lt_or_le a 0 with h | h
  · have e : Int.tdiv a b = -((-a) / b) := by
      rw [show a = -(-a) by omega, Int.neg_tdiv, Int.neg_neg, Int.tdiv_eq_ediv_of_nonneg (by omega)]
    have h3 : 0 ≤ (-a) / b := Int.ediv_nonneg (by omega) (by omega)
    have h4 : (-a) / b ≤ -a := Int.ediv_le_self _ (by omega)
    omega
  · have e : Int.tdiv a b = a / b := Int.tdiv_eq_ediv_of_nonneg h
    have h3 : 0 ≤ a / b := Int.ediv_nonneg h (by omega)
    have h4 : a / b ≤ a := Int.ediv_le_self _ h
    omega

/-- The quotient rounded down. -/
def flo (a b : Int) : Int := a / b
/-- The quotient rounded up. -/
def cei (a b : Int) : Int := -((-a) / b)

theorem flo_le {a b : Int} (hb : 1 ≤ b) : flo a b * b ≤ a ∧ a < flo a b * b + b := by
  unfold flo
  have h1 := Int.emod_nonneg a (show b ≠ 0 by omega)
  have h2 := Int.emod_lt_of_pos a (show 0 < b by omega)
  have h3 := Int.mul_ediv_add_emod a b
  rw [Int.mul_comm] at h3
  omega
theorem cei_le {a b : Int} (hb : 1 ≤ b) : a ≤ cei a b * b ∧ cei a b * b < a + b := by
  have h := flo_le (a := -a) hb
  unfold cei
  unfold flo at h
  rw [Int.neg_mul]
  omega

theorem rem_neg {a b : Int} (h : a < 0) : Int.tdiv a b = -((-a) / b) ∧ Int.tmod a b = -((-a) % b) := by
  constructor
  · rw [show a = -(-a) by omega, Int.neg_tdiv, Int.neg_neg, Int.tdiv_eq_ediv_of_nonneg (by omega)]
  · rw [show a = -(-a) by omega, Int.neg_tmod, Int.neg_neg, Int.tmod_eq_emod_of_nonneg (by omega)]
theorem rem_pos {a b : Int} (h : 0 ≤ a) : Int.tdiv a b = a / b ∧ Int.tmod a b = a % b :=
  ⟨Int.tdiv_eq_ediv_of_nonneg h, Int.tmod_eq_emod_of_nonneg h⟩

/-- A number q with q * b ≤ a < q * b + b is the quotient. -/
theorem flo_of {a b q : Int} (hb : 1 ≤ b) (h1 : q * b ≤ a) (h2 : a < q * b + b) : q = flo a b := by
  unfold flo
  have e1 : q ≤ a / b := Int.le_ediv_of_mul_le (by omega) h1
  have e2 : a / b < q + 1 := Int.ediv_lt_of_lt_mul (by omega) (by rw [Int.add_mul]; omega)
  omega
theorem cei_of {a b q : Int} (hb : 1 ≤ b) (h1 : a ≤ q * b) (h2 : q * b < a + b) : q = cei a b := by
  unfold cei
  have := flo_of (a := -a) (b := b) (q := -q) hb (by rw [Int.neg_mul]; omega) (by rw [Int.neg_mul]; omega)
  unfold flo at this
  omega

theorem flo_trunc {a b : Int} (hb : 1 ≤ b) : flo a b = if Int.tmod a b < 0 then Int.tdiv a b - 1 else Int.tdiv a b := by
  have hm := Int.mul_tdiv_add_tmod a b
  rw [Int.mul_comm] at hm
  rcases Int.lt_or_le a 0 with h | h
  · obtain ⟨_, e2⟩ := rem_neg (b := b) h
    have h1 := Int.emod_nonneg (-a) (show b ≠ 0 by omega)
    have h2 := Int.emod_lt_of_pos (-a) (show 0 < b by omega)
    split
    · exact (flo_of hb (by rw [Int.sub_mul]; omega) (by rw [Int.sub_mul]; omega)).symm
    · exact (flo_of hb (by omega) (by omega)).symm
  · obtain ⟨_, e2⟩ := rem_pos (b := b) h
    have h1 := Int.emod_nonneg a (show b ≠ 0 by omega)
    have h2 := Int.emod_lt_of_pos a (show 0 < b by omega)
    rw [if_neg (by omega)]
    exact (flo_of hb (by omega) (by omega)).symm
theorem cei_trunc {a b : Int} (hb : 1 ≤ b) : cei a b = if Int.tmod a b > 0 then Int.tdiv a b + 1 else Int.tdiv a b := by
  have hm := Int.mul_tdiv_add_tmod a b
  rw [Int.mul_comm] at hm
  rcases Int.lt_or_le a 0 with h | h
  · obtain ⟨_, e2⟩ := rem_neg (b := b) h
    have h1 := Int.emod_nonneg (-a) (show b ≠ 0 by omega)
    have h2 := Int.emod_lt_of_pos (-a) (show 0 < b by omega)
    rw [if_neg (by omega)]
    exact (cei_of hb (by omega) (by omega)).symm
  · obtain ⟨_, e2⟩ := rem_pos (b := b) h
    have h1 := Int.emod_nonneg a (show b ≠ 0 by omega)
    have h2 := Int.emod_lt_of_pos a (show 0 < b by omega)
    split
    · exact (cei_of hb (by rw [Int.add_mul]; omega) (by rw [Int.add_mul]; omega)).symm
    · exact (cei_of hb (by omega) (by omega)).symm
theorem flo_bd {a b : Int} (hb : 1 ≤ b) (h1 : -9223372036854775808 ≤ a) (h2 : a ≤ 9223372036854775807) : -9223372036854775808 ≤ flo a b ∧ flo a b ≤ 9223372036854775807 := by
  unfold flo
  exact ⟨by
    apply Int.le_ediv_of_mul_le (by omega)
    have := Int.mul_le_mul_of_nonneg_left (a := 1) (b := b) (c := 9223372036854775808) hb (by omega)
    omega, by
    have := flo_le (a := a) hb
    unfold flo at this
    rcases Int.lt_or_le (a / b) 0 with h | h
    · omega
    · have := Int.mul_le_mul_of_nonneg_left (a := 1) (b := b) (c := a / b) hb h
      omega⟩
/-- The quotients differ by 0 or 1, and are alike where nothing is left. -/
theorem flo_cei {a b : Int} (hb : 1 ≤ b) : (flo a b = cei a b ↔ Int.tmod a b = 0) ∧ cei a b - flo a b ≤ 1 := by
  rw [flo_trunc hb, cei_trunc hb]
  split <;> split <;> omega
theorem flo_mono {u v b : Int} (hb : 1 ≤ b) (h : u ≤ v) : flo u b ≤ flo v b := Int.ediv_le_ediv (by omega) h
theorem flo_sub {u v b : Int} (hb : 1 ≤ b) : flo u b - flo v b ≤ flo (u - v) b + 1 := by
  have h1 := flo_le (a := u) hb
  have h2 := flo_le (a := v) hb
  have h3 := flo_le (a := u - v) hb
  have : (flo u b - flo v b) * b < (flo (u - v) b + 2) * b := by rw [Int.sub_mul, Int.add_mul]; omega
  have := Int.lt_of_mul_lt_mul_right this (by omega)
  omega
end Go.Proofs.YtkhlndhleiaokaaDoor.Plain
set_option linter.unusedVariables false
namespace Go.Proofs.YtkhlndhleiaokaaDoor.MHo
open Go.RowKit Go.Proofs.YtkhlndhleiaokaaDoorW.PrintWords
theorem made_cases {X : Nat → Nat → Prop} (h : X 1 0 ∧ X 1 1 ∧ X 1 2 ∧ X 1 3 ∧ X 2 0 ∧ X 2 1 ∧ X 2 2 ∧ X 2 3 ∧ X 3 0 ∧ X 3 1 ∧ X 3 2 ∧ X 3 3 ∧ X 4 0 ∧ X 4 1 ∧ X 4 2 ∧ X 4 3) (q s : Nat) (h1 : 1 ≤ q) (h4 : q ≤ 4) (h3 : s ≤ 3) : X q s := by
  obtain ⟨a1, a2, a3, a4, b1, b2, b3, b4, c1, c2, c3, c4, d1, d2, d3, d4⟩ := h
  rcases (show q = 1 ∨ q = 2 ∨ q = 3 ∨ q = 4 by omega) with rfl | rfl | rfl | rfl <;> rcases (show s = 0 ∨ s = 1 ∨ s = 2 ∨ s = 3 by omega) with rfl | rfl | rfl | rfl <;> assumption
theorem right_made (a2 a3 a4 a5 a6 a7 a8 a9 a10 a11 a12 : Int) (q s : Nat) (h1 : 1 ≤ q) (h4 : q ≤ 4) (h3 : s ≤ 3) : plan_Right.f (madeNet q s).1 (madeNet q s).2 a2 a3 a4 a5 a6 a7 a8 a9 a10 a11 a12 = some true := by
  refine made_cases (X := fun q s => plan_Right.f (madeNet q s).1 (madeNet q s).2 a2 a3 a4 a5 a6 a7 a8 a9 a10 a11 a12 = some true) ⟨?_, ?_, ?_, ?_, ?_, ?_, ?_, ?_, ?_, ?_, ?_, ?_, ?_, ?_, ?_, ?_⟩ q s h1 h4 h3 <;> kernel_rfl
theorem good_made (a2 a3 a4 a5 a6 a7 a8 a9 a10 a11 a12 : Int) (q s : Nat) (h1 : 1 ≤ q) (h4 : q ≤ 4) (h3 : s ≤ 3) : drumlineref5_Good.f (madeNet q s).1 (madeNet q s).2 a2 a3 a4 a5 a6 a7 a8 a9 a10 a11 a12 0 = some true := by
  refine made_cases (X := fun q s => drumlineref5_Good.f (madeNet q s).1 (madeNet q s).2 a2 a3 a4 a5 a6 a7 a8 a9 a10 a11 a12 0 = some true) ⟨?_, ?_, ?_, ?_, ?_, ?_, ?_, ?_, ?_, ?_, ?_, ?_, ?_, ?_, ?_, ?_⟩ q s h1 h4 h3 <;> kernel_rfl
end Go.Proofs.YtkhlndhleiaokaaDoor.MHo
namespace Go.Proofs.YtkhlndhleiaokaaDoor.MHo
open Go.RowKit Go.Proofs.YtkhlndhleiaokaaDoorW.PrintWords Go.Proofs.YtkhlndhleiaokaaDoorW.PrintLast Go.Proofs.YtkhlndhleiaokaaDoorW.PrintMore
attribute [local go_sem] mp_u32s mp_u32m mp_u8s mp_u8m max2_int min2_int max_two min_two max_three min_three max_four min_four   -- for this text's walks alone
set_option linter.unusedVariables false
set_option linter.unusedSimpArgs false

/-! ### bounds_Edge: function 23 -/
def bounds_Edge.f (k : Nat) (l0_0 : List (S60)) (l0_1 : List (S37)) (a0_2 : Int) (a0_3 : Int) (a0_4 : Int) (a0_5 : Int) (a0_6 : Int) (a0_7 : Int) (a0_8 : Int) (a0_9 : Int) (a0_10 : Int) (a0_11 : Int) (a0_12 : Int) : Option (Int) := (bounds_in.f k l0_0 l0_1 a0_2 a0_3 a0_4 a0_5 a0_6 a0_7 a0_8 a0_9 a0_10 a0_11 a0_12).bind fun bt461 => (some bt461.1)
theorem bounds_Edge.mono : ∀ a0 a1 a2 a3 a4 a5 a6 a7 a8 a9 a10 a11 a12 k, LeO (bounds_Edge.f k a0 a1 a2 a3 a4 a5 a6 a7 a8 a9 a10 a11 a12) (bounds_Edge.f (k + 1) a0 a1 a2 a3 a4 a5 a6 a7 a8 a9 a10 a11 a12) := by
 intro a0 a1 a2 a3 a4 a5 a6 a7 a8 a9 a10 a11 a12 k
 unfold bounds_Edge.f
 repeat' first
   | (with_reducible exact bounds_in.mono _ _ _ _ _ _ _ _ _ _ _ _ _ _)
   | (with_reducible exact LeO.refl _)
   | (with_reducible exact LeO.none _)
   | (with_reducible refine LeO.ite ?_ ?_)
   | (with_reducible refine LeO.bind ?_ (fun _ => ?_))
   | exact bounds_in.mono _ _ _ _ _ _ _ _ _ _ _ _ _ _
   | exact LeO.none _
   | refine LeO.ite ?_ ?_
   | refine LeO.bind ?_ (fun _ => ?_)
set_option maxHeartbeats 8000000 in
set_option maxRecDepth 100000 in
theorem bounds_Edge.calls (k : Nat) (A0_0 : Option Addr) (c0_0 : Nat) (l0_0 : List (S60)) (A0_1 : Option Addr) (c0_1 : Nat) (l0_1 : List (S37)) (a0_2 : Int) (a0_3 : Int) (a0_4 : Int) (a0_5 : Int) (a0_6 : Int) (a0_7 : Int) (a0_8 : Int) (a0_9 : Int) (a0_10 : Int) (a0_11 : Int) (a0_12 : Int) (r : Int) (w : World) (hr0_0 : Kd.C k60 w A0_0 l0_0.length l0_0) (hc0_0 : l0_0.length ≤ c0_0) (hr0_1 : Kd.C k37 w A0_1 l0_1.length l0_1) (hc0_1 : l0_1.length ≤ c0_1) (h : bounds_Edge.f k l0_0 l0_1 a0_2 a0_3 a0_4 a0_5 a0_6 a0_7 a0_8 a0_9 a0_10 a0_11 a0_12 = some r) :
  Calls Tryd.prog 23 #[.agg #[.slice A0_0 l0_0.length c0_0, .slice A0_1 l0_1.length c0_1, .int .i64 a0_2, .int .i64 a0_3, .int .i64 a0_4, .int .i64 a0_5, .int .i64 a0_6, .int .i64 a0_7, .int .i64 a0_8, .int .i64 a0_9, .int .i64 a0_10, .int .i64 a0_11, .int .i64 a0_12]] w fun e w' => e = .returned (.int .i64 r) ∧ Below w.heap.size w w' := by
 have hu25 := Tryd.underlying25
 have HR0_0 := Aside0.mk hr0_0
 have HC0_0 := Aside0.mk hc0_0
 clear hr0_0 hc0_0
 have HR0_1 := Aside0.mk hr0_1
 have HC0_1 := Aside0.mk hc0_1
 clear hr0_1 hc0_1
 have HB := Aside0.mk (Below.refl w.heap.size w)
 have H : ((bounds_in.f k l0_0 l0_1 a0_2 a0_3 a0_4 a0_5 a0_6 a0_7 a0_8 a0_9 a0_10 a0_11 a0_12).bind fun bt461 => (some bt461.1)) = some r := h
 clear h
 replace H := Option.bind_eq_some_iff.mp H
 obtain ⟨⟨t461, t462, t463, t464, t465, t466, t467⟩, A20, H⟩ := H
 have hfd0 : ∀ w_ : World, (Instr.field 67 (.agg #[.int .i64 t461, .int .i64 t462, .int .i64 t463, .int .i64 t464, .int .i64 t465, .int .i64 t466, .int .i64 t467]) 0).run Tryd.prog w_ = .ok (.int .i64 t461) w_ := fun _ => by kernel_rfl
 have hfd1 : ∀ w_ : World, (Instr.field 67 (.agg #[.int .i64 t461, .int .i64 t462, .int .i64 t463, .int .i64 t464, .int .i64 t465, .int .i64 t466, .int .i64 t467]) 1).run Tryd.prog w_ = .ok (.int .i64 t462) w_ := fun _ => by kernel_rfl
 have hfd5 : ∀ w_ : World, (Instr.field 67 (.agg #[.int .i64 t461, .int .i64 t462, .int .i64 t463, .int .i64 t464, .int .i64 t465, .int .i64 t466, .int .i64 t467]) 5).run Tryd.prog w_ = .ok (.int .i64 t466) w_ := fun _ => by kernel_rfl
 replace H : (some t461) = some r := H
 have A2 := Aside0.mk A20
 clear A20
 obtain rfl := Option.some.inj H
 go_enter Tryd.func23, Tryd.ntmps23
 go_wp2_with (first | ((with_reducible refine gate_dst (N := 1) rfl ?_); refine box_event ?hg (N := 1) ?hd (cs := #[.slice A0_0 l0_0.length c0_0, .slice A0_1 l0_1.length c0_1, .int .i64 a0_2, .int .i64 a0_3, .int .i64 a0_4, .int .i64 a0_5, .int .i64 a0_6, .int .i64 a0_7, .int .i64 a0_8, .int .i64 a0_9, .int .i64 a0_10, .int .i64 a0_11, .int .i64 a0_12]) (t := 25) ?hr ?_; (case hd => rfl); (case hg => rfl); (case hr => first | (go_simp; done) | (go_simp; rfl)); intro gb460 hg w3 hbox hb; have n0_ := Aside0.mk (below_step (by repeat (first | (with_reducible first | exact HB.out | apply below_alloc | apply pw_below_drewN | apply below_drew1) | exact HB.out)) hb); have n1_ := Aside0.mk (hbox); have n2_ := Aside0.mk ((by rw [hg]; exact (below_size (by repeat (first | (with_reducible first | exact HB.out | apply below_alloc | apply pw_below_drewN | apply below_drew1) | exact HB.out))) : w.heap.size ≤ gb460)); have n3_ := Aside0.mk ((by rw [hg]; exact (below_size (by repeat (first | (with_reducible first | exact HB.out | apply below_alloc | apply pw_below_drewN | apply below_drew1) | exact HB.out))) : w.heap.size ≤ gb460)); clear HB; have HB := n0_; have BK460 := n1_; have GW460 := n2_; have GE460 := n3_; clear n0_ n1_ n2_ n3_; clear hb hbox hg; obtain ⟨hcz4_0, hcz4_1, hcz4_2, hcz4_3, hcz4_4, hcz4_5, hcz4_6, hcz4_7, hcz4_8, hcz4_9, hcz4_10, hcz4_11, hcz4_12⟩ := cellsK13 BK460.out; obtain ⟨hfz4_0, hfz4_1, hfz4_2, hfz4_3, hfz4_4, hfz4_5, hfz4_6, hfz4_7, hfz4_8, hfz4_9, hfz4_10, hfz4_11, hfz4_12⟩ := frozK13 BK460.out) | ((with_reducible refine gate_callee (f := 45) rfl ?_); refine goesL_ (some 4) rfl rfl Tryd.func45 (by kernel_rfl) rfl #[.agg #[.slice A0_0 l0_0.length c0_0, .slice A0_1 l0_1.length c0_1, .int .i64 a0_2, .int .i64 a0_3, .int .i64 a0_4, .int .i64 a0_5, .int .i64 a0_6, .int .i64 a0_7, .int .i64 a0_8, .int .i64 a0_9, .int .i64 a0_10, .int .i64 a0_11, .int .i64 a0_12]] rfl (by (try simp only [List.map_toArray, List.map_cons, List.map_nil]); first | done | rfl | (simp only [List.length_drop, List.length_take]; rfl)) ?_; (with_reducible refine (bounds_in.calls k _ _ l0_0 _ _ l0_1 a0_2 a0_3 a0_4 a0_5 a0_6 a0_7 a0_8 a0_9 a0_10 a0_11 a0_12 t461 t462 t463 t464 t465 t466 t467 _ ?side1 ?side2 ?side3 ?side4 A2.out).mono ?_); (case side1 => repeat (first | exact (Kd.C_below HR0_0.out HB.out) | (with_reducible refine Kd.C_alloc ?_ _) | (with_reducible refine Kd.C_drewN ?_ _) | (with_reducible refine Kd.C_drew ?_))); (case side2 => exact HC0_0.out); (case side3 => repeat (first | exact (Kd.C_below HR0_1.out HB.out) | (with_reducible refine Kd.C_alloc ?_ _) | (with_reducible refine Kd.C_drewN ?_ _) | (with_reducible refine Kd.C_drew ?_))); (case side4 => exact HC0_1.out); rintro e w5 ⟨rfl, hb⟩; refine ⟨_, rfl, ?_⟩; have n0_ := Aside0.mk (blk_below (g := gb460) (o := .cells #[.slice A0_0 l0_0.length c0_0, .slice A0_1 l0_1.length c0_1, .int .i64 a0_2, .int .i64 a0_3, .int .i64 a0_4, .int .i64 a0_5, .int .i64 a0_6, .int .i64 a0_7, .int .i64 a0_8, .int .i64 a0_9, .int .i64 a0_10, .int .i64 a0_11, .int .i64 a0_12] 25 (0, 0)) (by (with_reducible repeat (first | refine blk_drewN ?_ _ | refine blk_drew ?_ | refine blk_alloc ?_ _)); exact BK460.out) hb); have n1_ := Aside0.mk (below_step (by repeat (first | (with_reducible first | exact HB.out | apply below_alloc | apply pw_below_drewN | apply below_drew1 | refine below_set ?_ GE460.out) | exact HB.out)) hb); clear BK460; clear HB; have BK460 := n0_; have HB := n1_; clear n0_ n1_; (try clear hb); (try clear hb2); (try clear hk); (try clear hi)))
 go_ret
 exact ⟨by first | rfl | (simp [errW_none, errW_some] <;> rfl) | (simp [*, errW_none, errW_some] <;> rfl), by repeat (first | (with_reducible first | exact HB.out | apply below_alloc | apply pw_below_drewN | apply below_drew1 | refine below_set ?_ GE460.out) | exact HB.out)⟩

end Go.Proofs.YtkhlndhleiaokaaDoor.MHo
set_option linter.unusedVariables false
set_option linter.unusedSimpArgs false
namespace Go.Proofs.YtkhlndhleiaokaaDoor.MHo
open Go.RowKit Go.Proofs.YtkhlndhleiaokaaDoorW.PrintWords Go.Proofs.YtkhlndhleiaokaaDoor.Plain

theorem floor_eq {a b : Int} (h1 : -9223372036854775808 ≤ a) (h2 : a ≤ 9223372036854775807) : ticks_Floor.f a b = some (if b < 1 then (0, false) else (flo a b, true)) := by
  unfold ticks_Floor.f
  by_cases hb : b < 1
  · rw [if_pos hb, if_pos hb]
  · have ht := tdiv_le (a := a) (b := b) (by omega) h1 h2
    have hf := flo_bd (a := a) (b := b) (by omega) h1 h2
    have he := flo_trunc (a := a) (b := b) (by omega)
    rw [if_neg hb, if_neg (by omega), if_neg hb, w64 ht.1 ht.2]
    by_cases hm : Int.tmod a b < 0
    · rw [if_pos hm] at he ⊢
      rw [w64 (by omega) (by omega), he]
    · rw [if_neg hm] at he ⊢
      rw [he]

theorem mul_bd {x p X P : Int} (h1 : -X ≤ x) (h2 : x ≤ X) (h3 : -P ≤ p) (h4 : p ≤ P) : -(X * P) ≤ x * p ∧ x * p ≤ X * P := by
  rcases Int.lt_or_le x 0 with hx | hx
  · have a := Int.mul_le_mul_of_nonneg_left (c := -x) (a := -P) (b := p) h3 (by omega)
    have b := Int.mul_le_mul_of_nonneg_left (c := -x) (a := p) (b := P) h4 (by omega)
    have c := Int.mul_le_mul_of_nonneg_right (c := P) (a := -x) (b := X) (by omega) (by omega)
    simp only [Int.neg_mul, Int.mul_neg] at a b c
    omega
  · have a := Int.mul_le_mul_of_nonneg_left (c := x) (a := -P) (b := p) h3 (by omega)
    have b := Int.mul_le_mul_of_nonneg_left (c := x) (a := p) (b := P) h4 (by omega)
    have c := Int.mul_le_mul_of_nonneg_right (c := P) (a := x) (b := X) (by omega) (by omega)
    simp only [Int.mul_neg] at a
    omega
theorem scale_eq {x p : Int} (h1 : -1099511627776 ≤ x) (h2 : x ≤ 1099511627776) (h3 : -1000000 ≤ p) (h4 : p ≤ 1000000) : ticks_Scale.f x p = some (flo (x * p) 1000000, true) := by
  obtain ⟨b1, b2⟩ := mul_bd h1 h2 h3 h4
  unfold ticks_Scale.f ticks_Time.f
  rw [if_pos (by omega)]
  simp only [Option.bind_some, decide_eq_true_eq]
  rw [if_pos (by omega), if_neg (by omega), if_neg (by omega), w64 (by omega) (by omega), floor_eq (by omega) (by omega)]
  rfl
theorem real_eq {x p : Int} (h1 : -1099511627776 ≤ x) (h2 : x ≤ 1099511627776) (h3 : -1000000 ≤ p) (h4 : p ≤ 1000000) : clock_Real.f x p = some (x - flo (x * p) 1000000) := by
  obtain ⟨b1, b2⟩ := mul_bd h1 h2 h3 h4
  have f := flo_le (a := x * p) (b := 1000000) (by omega)
  unfold clock_Real.f
  rw [scale_eq h1 h2 h3 h4]
  simp only [Option.bind_some]
  rw [w64 (by omega) (by omega)]
theorem local_eq {x p : Int} (h1 : -1099511627776 ≤ x) (h2 : x ≤ 1099511627776) (h3 : -1000000 ≤ p) (h4 : p ≤ 1000000) : clock_Local.f x p = some (x + flo (x * p) 1000000) := by
  obtain ⟨b1, b2⟩ := mul_bd h1 h2 h3 h4
  have f := flo_le (a := x * p) (b := 1000000) (by omega)
  unfold clock_Local.f
  rw [scale_eq h1 h2 h3 h4]
  simp only [Option.bind_some]
  rw [w64 (by omega) (by omega)]
/-- Rounded up, of parts of a million. -/
def up (d : Int) : Int := (d + 999999) / 1000000
theorem ceil_eq {d : Int} (h0 : 0 ≤ d) (h1 : d ≤ 1000000000000) : drumlineref1_Ceil.f d 1000000 = some (up d, true) := by
  unfold drumlineref1_Ceil.f up
  rw [if_neg (by omega), if_neg (by omega), Int.tmod_eq_emod_of_nonneg h0, Int.tdiv_eq_ediv_of_nonneg h0]
  have e : wrap64 (d / 1000000) = d / 1000000 := by unfold wrap64; omega
  rw [e]
  by_cases h : d % 1000000 > 0
  · rw [if_pos h, show wrap64 (d / 1000000 + 1) = d / 1000000 + 1 by unfold wrap64; omega, show d / 1000000 + 1 = (d + 999999) / 1000000 by omega]
  · rw [if_neg h, show d / 1000000 = (d + 999999) / 1000000 by omega]
theorem tceil_eq {d : Int} (h0 : 0 ≤ d) (h1 : d ≤ 1000000000000) : ticks_Ceil.f d 1000000 = some (up d, true) := ceil_eq h0 h1
theorem up_eq {d : Int} (h0 : 0 ≤ d) (h1 : d ≤ 1000000000000) : drumlineref5_up.f d = some (up d) := by
  unfold drumlineref5_up.f; rw [ceil_eq h0 h1]; rfl
theorem part_eq {d : Int} (h0 : 0 ≤ d) (h1 : d ≤ 1000000000000) : bounds_part.f d = some (up d) := by
  unfold bounds_part.f; rw [tceil_eq h0 h1]; rfl
/-- What a network's drift and cycle come to. -/
def Eg (dr cyc : Int) : Int := up (2 * dr * cyc) + 1
theorem dc_bd {dr cyc : Int} (h1 : 0 ≤ dr) (h2 : dr ≤ 140) (h3 : 20000 ≤ cyc) (h4 : cyc ≤ 27000) : 0 ≤ dr * cyc ∧ dr * cyc ≤ 3780000 ∧ 2 * dr * cyc = 2 * (dr * cyc) := by
  refine ⟨Int.mul_nonneg h1 (by omega), ?_, Int.mul_assoc 2 dr cyc⟩
  calc dr * cyc ≤ 140 * cyc := Int.mul_le_mul_of_nonneg_right h2 (by omega)
    _ ≤ 3780000 := by omega
theorem Eg_bd {dr cyc : Int} (h1 : 0 ≤ dr) (h2 : dr ≤ 140) (h3 : 20000 ≤ cyc) (h4 : cyc ≤ 27000) : 1 ≤ Eg dr cyc ∧ Eg dr cyc ≤ 9 := by
  have := dc_bd h1 h2 h3 h4
  unfold Eg up; omega
theorem edge_eq (P : List S60) (L : List S37) {a2 a3 a4 a5 a6 a7 a8 a9 a10 a11 a12 : Int} (h1 : 0 ≤ a6) (h2 : a6 ≤ 140) (h3 : 20000 ≤ a2) (h4 : a2 ≤ 27000) : drumlineref5_edge.f P L a2 a3 a4 a5 a6 a7 a8 a9 a10 a11 a12 = some (Eg a6 a2) := by
  have hb := dc_bd h1 h2 h3 h4
  unfold drumlineref5_edge.f
  rw [show wrap64 (2 * a6) = 2 * a6 by unfold wrap64; omega, show wrap64 (2 * a6 * a2) = 2 * a6 * a2 by unfold wrap64; omega, up_eq (by omega) (by omega)]
  simp only [Option.bind_some]
  have := Eg_bd h1 h2 h3 h4
  unfold Eg at *
  rw [show wrap64 (up (2 * a6 * a2) + 1) = up (2 * a6 * a2) + 1 by unfold wrap64; omega]
theorem out_eq (P : List S60) (L : List S37) {a2 a3 a4 a5 a6 a7 a8 a9 a10 a11 a12 : Int} (k : Nat) (h1 : 1000 ≤ a2) (h2 : a2 ≤ 1000000) (h3 : 0 ≤ a6) (h4 : a6 ≤ 500) (h5 : 0 ≤ a7) (h6 : a7 ≤ 400000) (h7 : 1 ≤ a8) (h8 : a8 ≤ 200) (h9 : 0 ≤ a9) (h10 : a9 ≤ 20) :
    drumlineref5_out.f (k + 4) P L a2 a3 a4 a5 a6 a7 a8 a9 a10 a11 a12 = some 0 := by
  unfold drumlineref5_out.f
  rw [if_neg (by omega), show decide (a2 > 1000000) = false from decide_eq_false (by omega), drumlineref5_out.j0, if_neg (by decide), if_neg (by omega), show decide (a6 > 500) = false from decide_eq_false (by omega), drumlineref5_out.j1, if_neg (by decide), if_neg (by omega), show decide (a7 > 400000) = false from decide_eq_false (by omega), drumlineref5_out.j2, if_neg (by decide), if_neg (by omega), show decide (a8 > 200) = false from decide_eq_false (by omega), drumlineref5_out.j3, if_neg (by decide), if_neg (by omega), if_neg (by omega)]
theorem Edge_eq (q s : Nat) {a2 a3 a4 a5 a6 a7 a8 a9 a10 a11 a12 : Int} (g1 : 1 ≤ q) (g4 : q ≤ 4) (g3 : s ≤ 3) (h1 : 0 ≤ a6) (h2 : a6 ≤ 140) (h3 : 20000 ≤ a2) (h4 : a2 ≤ 27000) (h5 : 0 ≤ a7) (h6 : a7 ≤ 400000) (h7 : 1 ≤ a8) (h8 : a8 ≤ 200) (h9 : 0 ≤ a9) (h10 : a9 ≤ 20) :
    drumlineref5_Edge.f 100 (madeNet q s).1 (madeNet q s).2 a2 a3 a4 a5 a6 a7 a8 a9 a10 a11 a12 = some (Eg a6 a2) := by
  unfold drumlineref5_Edge.f drumlineref5_ranged.f
  rw [good_made a2 a3 a4 a5 a6 a7 a8 a9 a10 a11 a12 q s g1 g4 g3]
  simp only [Option.bind_some, if_true]
  rw [show drumlineref5_out.f 100 (madeNet q s).1 (madeNet q s).2 a2 a3 a4 a5 a6 a7 a8 a9 a10 a11 a12 = some 0 from out_eq _ _ 96 (by omega) (by omega) h1 (by omega) h5 h6 h7 h8 h9 h10]
  simp only [Option.bind_some, beq_self_eq_true, if_true]
  rw [edge_eq _ _ h1 h2 h3 h4]
  rfl
theorem ranged_eq (P : List S60) (L : List S37) {a2 a3 a4 a5 a6 a7 a8 a9 a10 a11 a12 : Int} (h1 : 1000 ≤ a2) (h2 : a2 ≤ 1000000) (h3 : 0 ≤ a6) (h4 : a6 ≤ 500) (h5 : 0 ≤ a7) (h6 : a7 ≤ 400000) (h7 : 1 ≤ a8) (h8 : a8 ≤ 200) (h9 : 0 ≤ a9) (h10 : a9 ≤ 20) :
    bounds_ranged.f 100 P L a2 a3 a4 a5 a6 a7 a8 a9 a10 a11 a12 = some 0 := by
  unfold bounds_ranged.f bounds_within.f
  rw [if_pos h1, if_pos h3, if_pos h5, if_pos h7, if_pos h9, decide_eq_true h2, decide_eq_true h4, decide_eq_true h6, decide_eq_true h8, decide_eq_true h10]
  have : bounds_first.f 100 1 [true, true, true, true, true] = some 0 := by kernel_rfl
  simp only [Option.bind_some]
  rw [this]
  rfl
/-- What Tick comes to. -/
def Tk (dr cyc rate : Int) : Int := 2 * Eg dr cyc + Eg dr cyc + up (2 * Eg dr cyc * (rate + dr)) + 1
theorem in_eq (q s : Nat) {a2 a3 a4 a5 a6 a7 a8 a9 a10 a11 a12 : Int} (g1 : 1 ≤ q) (g4 : q ≤ 4) (g3 : s ≤ 3) (h1 : 0 ≤ a6) (h2 : a6 ≤ 140) (h3 : 20000 ≤ a2) (h4 : a2 ≤ 27000) (h5 : 0 ≤ a7) (h6 : a7 ≤ 400000) (h7 : 1 ≤ a8) (h8 : a8 ≤ 200) (h9 : 0 ≤ a9) (h10 : a9 ≤ 20) :
    ∃ b3 b4 b5 b7, bounds_in.f 100 (madeNet q s).1 (madeNet q s).2 a2 a3 a4 a5 a6 a7 a8 a9 a10 a11 a12 = some (Eg a6 a2, 2 * Eg a6 a2, b3, b4, b5, Tk a6 a2 a7, b7) := by
  have hb := dc_bd h1 h2 h3 h4
  have he := Eg_bd h1 h2 h3 h4
  unfold bounds_in.f
  rw [right_made a2 a3 a4 a5 a6 a7 a8 a9 a10 a11 a12 q s g1 g4 g3]
  simp only [Option.bind_some, if_true]
  rw [ranged_eq _ _ (by omega) (by omega) h1 (by omega) h5 h6 h7 h8 h9 h10]
  simp only [Option.bind_some, if_true]
  unfold bounds_Reckon.f
  rw [show wrap64 (2 * a6) = 2 * a6 by unfold wrap64; omega, show wrap64 (2 * a6 * a2) = 2 * a6 * a2 by unfold wrap64; omega, part_eq (by omega) (by omega)]
  simp only [Option.bind_some]
  rw [show wrap64 (a6 * a2) = a6 * a2 by unfold wrap64; omega, part_eq (by omega) (by omega)]
  simp only [Option.bind_some]
  have e1 : up (2 * a6 * a2) + 1 = Eg a6 a2 := rfl
  have hm : 0 ≤ 2 * Eg a6 a2 * (a7 + a6) ∧ 2 * Eg a6 a2 * (a7 + a6) ≤ 18 * (a7 + a6) := ⟨Int.mul_nonneg (by omega) (by omega), Int.mul_le_mul_of_nonneg_right (by omega) (by omega)⟩
  rw [e1, show wrap64 (Eg a6 a2) = Eg a6 a2 by unfold wrap64; omega, show wrap64 (2 * Eg a6 a2) = 2 * Eg a6 a2 by unfold wrap64; omega, show wrap64 (a7 + a6) = a7 + a6 by unfold wrap64; omega, show wrap64 (2 * Eg a6 a2 * (a7 + a6)) = 2 * Eg a6 a2 * (a7 + a6) by unfold wrap64; omega, part_eq (by omega) (by omega)]
  simp only [Option.bind_some]
  have hu : 0 ≤ up (2 * Eg a6 a2 * (a7 + a6)) ∧ up (2 * Eg a6 a2 * (a7 + a6)) ≤ 100 := by unfold up; omega
  rw [show wrap64 (2 * Eg a6 a2 + Eg a6 a2) = 2 * Eg a6 a2 + Eg a6 a2 by unfold wrap64; omega, show wrap64 (2 * Eg a6 a2 + Eg a6 a2 + up (2 * Eg a6 a2 * (a7 + a6))) = 2 * Eg a6 a2 + Eg a6 a2 + up (2 * Eg a6 a2 * (a7 + a6)) by unfold wrap64; omega, show wrap64 (2 * Eg a6 a2 + Eg a6 a2 + up (2 * Eg a6 a2 * (a7 + a6)) + 1) = Tk a6 a2 a7 by unfold Tk wrap64; omega]
  exact ⟨_, _, _, _, rfl⟩
/-- What Made makes of a number. -/
theorem made_eq (n : Int) : ∃ (q s : Nat) (cyc dr ag lo li sp : Int), 1 ≤ q ∧ q ≤ 4 ∧ s ≤ 3 ∧ 20000 ≤ cyc ∧ cyc ≤ 27000 ∧ 0 ≤ dr ∧ dr ≤ 140 ∧ 1 ≤ ag ∧ ag ≤ 200 ∧ 0 ≤ lo ∧ lo ≤ 20 ∧
    drumlineref26_Made.f n = some ((madeNet q s).1, (madeNet q s).2, cyc, 60, 100, 3 * Eg dr cyc, dr, 300000, ag, lo, li, sp, 12) := by
  have hk : 0 ≤ (((1 + n % 65536 % 4).toNat : Int) - 1) * (n % 65536 / 1024 % 2 + 1) ∧ (((1 + n % 65536 % 4).toNat : Int) - 1) * (n % 65536 / 1024 % 2 + 1) ≤ 8 := by
    rcases (show n % 65536 / 1024 % 2 = 0 ∨ n % 65536 / 1024 % 2 = 1 by omega) with h | h <;> rw [h] <;> omega
  refine ⟨(1 + n % 65536 % 4).toNat, (n % 65536 / 4 % 4).toNat, 20000 + 1000 * (n % 65536 / 16 % 8), 20 * (n % 65536 / 128 % 8), (((1 + n % 65536 % 4).toNat : Int) - 1) * (n % 65536 / 1024 % 2 + 1) + 1 + n % 65536 / 2048 % 4, n % 65536 / 1024 % 2, ((1 + n % 65536 % 4).toNat : Int) * (n % 65536 / 1024 % 2 + 1) + 2 + n % 65536 / 8192 % 2, ((1 + n % 65536 % 4).toNat : Int) * (n % 65536 / 1024 % 2 + 1) + 2, by omega, by omega, by omega, by omega, by omega, by omega, by omega, by omega, by omega, by omega, by omega, ?_⟩
  unfold drumlineref26_Made.f
  rw [Edge_eq _ _ (by omega) (by omega) (by omega) (by omega) (by omega) (by omega) (by omega) (by omega) (by omega) (by omega) (by omega) (by omega) (by omega)]
  simp only [Option.bind_some]
  have := Eg_bd (dr := 20 * (n % 65536 / 128 % 8)) (cyc := 20000 + 1000 * (n % 65536 / 16 % 8)) (by omega) (by omega) (by omega) (by omega)
  rw [if_pos (by omega)]
end Go.Proofs.YtkhlndhleiaokaaDoor.MHo
set_option linter.unusedVariables false
set_option linter.unusedSimpArgs false
namespace Go.Proofs.YtkhlndhleiaokaaDoor.Pure
open Go.RowKit Go.Proofs.YtkhlndhleiaokaaDoor.MHo Go.Proofs.YtkhlndhleiaokaaDoorW.PrintWords Go.Proofs.YtkhlndhleiaokaaDoorW.PrintLast Go.Proofs.YtkhlndhleiaokaaDoorW.PrintMore Go.Proofs.YtkhlndhleiaokaaDoor.Plain

theorem tick_ (wa wb p q r dr cyc : Int) (x0 : 0 ≤ wa) (x1 : wa ≤ cyc) (y0 : 0 ≤ wb) (y1 : wb ≤ cyc) (z0 : -(2 * Eg dr cyc) ≤ wa - wb) (z1 : wa - wb ≤ 2 * Eg dr cyc) (p0 : -dr ≤ p) (p1 : p ≤ dr) (q0 : -dr ≤ q) (q1 : q ≤ dr) (c2 : cyc ≤ 27000) (d1 : 0 ≤ dr) (d2 : dr ≤ 140) (r0 : -300000 ≤ r) (r1 : r ≤ 300000) :
    wa + flo (wa * (p + r)) 1000000 - (wb + flo (wb * (q + r)) 1000000) ≤ Tk dr cyc 300000 ∧ wb + flo (wb * (q + r)) 1000000 - (wa + flo (wa * (p + r)) 1000000) ≤ Tk dr cyc 300000 ∧ -900000 ≤ flo (wa * (p + r)) 1000000 ∧ flo (wa * (p + r)) 1000000 ≤ 900000 ∧ -900000 ≤ flo (wb * (q + r)) 1000000 ∧ flo (wb * (q + r)) 1000000 ≤ 900000 := by
  have e : wa * (p + r) - wb * (q + r) = wa * (p - q) + (wa - wb) * (q + r) := by
    simp only [Int.mul_add, Int.mul_sub, Int.sub_mul]; omega
  obtain ⟨b1, b2⟩ := mul_bd (x := wa) (p := p - q) (X := cyc) (P := 2 * dr) (by omega) x1 (by omega) (by omega)
  obtain ⟨b3, b4⟩ := mul_bd (x := wa - wb) (p := q + r) (X := 2 * Eg dr cyc) (P := 300000 + dr) z0 z1 (by omega) (by omega)
  obtain ⟨b5, b6⟩ := mul_bd (x := wa) (p := p + r) (X := 27000) (P := 300140) (by omega) (by omega) (by omega) (by omega)
  obtain ⟨b7, b8⟩ := mul_bd (x := wb) (p := q + r) (X := 27000) (P := 300140) (by omega) (by omega) (by omega) (by omega)
  have e2 : 2 * dr * cyc = cyc * (2 * dr) := Int.mul_comm _ _
  have hE : Eg dr cyc = (cyc * (2 * dr) + 999999) / 1000000 + 1 := by rw [← e2]; rfl
  unfold Tk MHo.up flo
  generalize 2 * Eg dr cyc * (300000 + dr) = U at *
  generalize Eg dr cyc = E at *
  generalize cyc * (2 * dr) = D at *
  generalize wa * (p + r) = A at *
  generalize wb * (q + r) = B at *
  generalize wa * (p - q) = C at *
  generalize (wa - wb) * (q + r) = F at *
  omega
theorem ttime_in {x : Int} (h1 : -1099511627776 ≤ x) (h2 : x ≤ 1099511627776) : ticks_Time.f x = some true := by
  unfold ticks_Time.f; rw [if_pos (by omega), decide_eq_true (by omega)]
theorem reading_eq {st cyc p at_ : Int} (s0 : -1099511627776 ≤ st) (s1 : st ≤ 1099511627776) (a0 : -1099511627776 ≤ at_) (a1 : at_ ≤ 1099511627776) (e0 : 0 ≤ at_ - st) (e1 : at_ - st ≤ 30000) (c1 : 20000 ≤ cyc) (c2 : cyc ≤ 27000) (p0 : -300140 ≤ p) (p1 : p ≤ 300140) :
    clock_Reading.f st 7 cyc p at_ = some (7 * cyc + (at_ - st + flo ((at_ - st) * p) 1000000), true) := by
  obtain ⟨b5, b6⟩ := mul_bd (x := at_ - st) (p := p) (X := 30000) (P := 300140) (by omega) (by omega) (by omega) (by omega)
  unfold clock_Reading.f
  rw [ttime_in s0 s1]
  simp only [Option.bind_some, if_true]
  rw [ttime_in a0 a1]
  simp only [Option.bind_some, if_true]
  rw [w64 (x := at_ - st) (by omega) (by omega), ttime_in (by omega) (by omega)]
  simp only [Option.bind_some, if_true]
  rw [if_neg (by omega), if_neg (by omega), if_neg (by omega), if_neg (by omega), if_neg (by omega), if_neg (by omega), local_eq (by omega) (by omega) (by omega) (by omega)]
  simp only [Option.bind_some]
  unfold flo at *
  generalize (at_ - st) * p = A at *
  rw [w64 (x := 7 * cyc) (by omega) (by omega), w64 (by omega) (by omega)]
theorem t0_true (k : Nat) (x2 x4 x12 x13 x14 x15 : Int) (P : List S60) (L : List S37) (cyc a3 a4 a5 dr a7 a8 a9 a10 a11 a12 : Int) : drumlinelaw8_ClockTick.j0 (k + 1) x2 x4 x12 x13 x14 x15 true P L cyc a3 a4 a5 dr a7 a8 a9 a10 a11 a12 = some true := by
  rw [drumlinelaw8_ClockTick.j0, if_pos rfl]
theorem t1_true (k : Nat) (x2 x4 x12 x13 x14 x15 : Int) (P : List S60) (L : List S37) (cyc a3 a4 a5 dr a7 a8 a9 a10 a11 a12 : Int) : drumlinelaw8_ClockTick.j1 (k + 1) x2 x4 x12 x13 x14 x15 true P L cyc a3 a4 a5 dr a7 a8 a9 a10 a11 a12 = some true := by
  rw [drumlinelaw8_ClockTick.j1, if_pos rfl]
theorem t1_false (r t p q a b dr cyc ag lo li sp : Int) (P : List S60) (L : List S37) (hin : ∃ b3 b4 b5 b7, bounds_in.f 100 P L cyc 60 100 (3 * Eg dr cyc) dr 300000 ag lo li sp 12 = some (Eg dr cyc, 2 * Eg dr cyc, b3, b4, b5, Tk dr cyc 300000, b7)) (c1 : 20000 ≤ cyc) (c2 : cyc ≤ 27000) (d1 : 0 ≤ dr) (d2 : dr ≤ 140) (hE : drumlineref5_Edge.f 100 P L cyc 60 100 (3 * Eg dr cyc) dr 300000 ag lo li sp 12 = some (Eg dr cyc)) (t0 : 0 ≤ t) (t1 : t ≤ 4294967295) (p0 : -dr ≤ p) (p1 : p ≤ dr) (q0 : -dr ≤ q) (q1 : q ≤ dr) (r0 : -300000 ≤ r) (r1 : r ≤ 300000)
    (a0 : -549755813888 ≤ a) (a1 : a ≤ 549755813888) (b0 : -549755813888 ≤ b) (b1 : b ≤ 549755813888) (z0 : a - b ≤ 2 * Eg dr cyc) (z1 : b - a ≤ 2 * Eg dr cyc) :
    drumlinelaw8_ClockTick.j1 101 r t p q a b false P L cyc 60 100 (3 * Eg dr cyc) dr 300000 ag lo li sp 12 = some true := by
  obtain ⟨b3, b4, b5, b7, hin⟩ := hin
  have hb := Eg_bd d1 d2 c1 c2
  have hT : bounds_Tick.f 100 P L cyc 60 100 (3 * Eg dr cyc) dr 300000 ag lo li sp 12 = some (Tk dr cyc 300000) := by unfold bounds_Tick.f; rw [hin]; rfl
  have hN : drumlineref5_Near.f 100 P L cyc 60 100 (3 * Eg dr cyc) dr 300000 ag lo li sp 12 = some (2 * Eg dr cyc) := by
    unfold drumlineref5_Near.f; rw [hE]; simp only [Option.bind_some]; rw [w64 (by omega) (by omega)]
  have m0 := Int.emod_nonneg t (show cyc - 2 * Eg dr cyc ≠ 0 by omega)
  have m1 := Int.emod_lt_of_pos t (show 0 < cyc - 2 * Eg dr cyc by omega)
  have hmx : a ≤ mx a b ∧ b ≤ mx a b ∧ (mx a b = a ∨ mx a b = b) := by unfold mx; split <;> omega
  rw [drumlinelaw8_ClockTick.j1, if_neg (by decide), hN]
  simp only [Option.bind_some]
  rw [w64 (x := cyc - 2 * Eg dr cyc) (by omega) (by omega), if_neg (by omega), w64 (x := t) (by omega) (by omega), Int.tmod_eq_emod_of_nonneg t0, w64 (x := mx a b + t % (cyc - 2 * Eg dr cyc)) (by omega) (by omega), w64 (x := p + r) (by omega) (by omega), w64 (x := q + r) (by omega) (by omega)]
  generalize t % (cyc - 2 * Eg dr cyc) = m at *
  generalize mx a b = M at *
  obtain ⟨u1, u2, u3, u4, u5, u6⟩ := tick_ (M + m - a) (M + m - b) p q r dr cyc (by omega) (by omega) (by omega) (by omega) (by omega) (by omega) p0 p1 q0 q1 c2 d1 d2 r0 r1
  rw [reading_eq (by omega) (by omega) (by omega) (by omega) (by omega) (by omega) c1 c2 (by omega) (by omega), reading_eq (by omega) (by omega) (by omega) (by omega) (by omega) (by omega) c1 c2 (by omega) (by omega), hT]
  simp only [Option.bind_some, if_true]
  generalize flo ((M + m - a) * (p + r)) 1000000 = A at *
  generalize flo ((M + m - b) * (q + r)) 1000000 = B at *
  generalize Tk dr cyc 300000 = T at *
  rw [w64 (x := 7 * cyc + (M + m - a + A) - (7 * cyc + (M + m - b + B))) (by omega) (by omega), if_pos (by omega), w64 (by omega) (by omega), decide_eq_true (by omega)]
theorem t0_false (r t p q a b dr cyc ag lo li sp : Int) (P : List S60) (L : List S37) (hin : ∃ b3 b4 b5 b7, bounds_in.f 100 P L cyc 60 100 (3 * Eg dr cyc) dr 300000 ag lo li sp 12 = some (Eg dr cyc, 2 * Eg dr cyc, b3, b4, b5, Tk dr cyc 300000, b7)) (c1 : 20000 ≤ cyc) (c2 : cyc ≤ 27000) (d1 : 0 ≤ dr) (d2 : dr ≤ 140) (hE : drumlineref5_Edge.f 100 P L cyc 60 100 (3 * Eg dr cyc) dr 300000 ag lo li sp 12 = some (Eg dr cyc)) (t0 : 0 ≤ t) (t1 : t ≤ 4294967295) (p0 : -dr ≤ p) (p1 : p ≤ dr) (q0 : -dr ≤ q) (q1 : q ≤ dr) (r0 : -300000 ≤ r) (r1 : r ≤ 300000)
    (a0 : -549755813888 ≤ a) (a1 : a ≤ 549755813888) (b0 : -549755813888 ≤ b) (b1 : b ≤ 549755813888) :
    drumlinelaw8_ClockTick.j0 102 r t p q a b false P L cyc 60 100 (3 * Eg dr cyc) dr 300000 ag lo li sp 12 = some true := by
  have hb := Eg_bd d1 d2 c1 c2
  have hN : bounds_Near.f 101 P L cyc 60 100 (3 * Eg dr cyc) dr 300000 ag lo li sp 12 = some (2 * Eg dr cyc) := by
    apply bounds_Near.mono
    obtain ⟨b3, b4, b5, b7, hin⟩ := hin
    unfold bounds_Near.f; rw [hin]; rfl
  rw [drumlinelaw8_ClockTick.j0, if_neg (by decide), hN]
  simp only [Option.bind_some]
  rw [w64 (x := a - b) (by omega) (by omega), w64 (x := b - a) (by omega) (by omega)]
  by_cases e1 : a - b > 2 * Eg dr cyc
  · rw [if_pos e1]; exact t1_true 100 _ _ _ _ _ _ _ _ _ _ _ _ _ _ _ _ _ _ _
  rw [if_neg e1]
  by_cases e2 : b - a > 2 * Eg dr cyc
  · rw [decide_eq_true e2]; exact t1_true 100 _ _ _ _ _ _ _ _ _ _ _ _ _ _ _ _ _ _ _
  rw [decide_eq_false e2]
  exact t1_false r t p q a b dr cyc ag lo li sp P L hin c1 c2 d1 d2 hE t0 t1 p0 p1 q0 q1 r0 r1 a0 a1 b0 b1 (by omega) (by omega)
theorem tick_all (a0 p q r a b t : Int) (t0 : 0 ≤ t) (t1 : t ≤ 4294967295) : ∃ k, drumlinelaw8_ClockTick.f k a0 p q r a b t = some true := by
  obtain ⟨x, s, cyc, dr, ag, lo, li, sp, hq1, hq4, hs3, c1, c2, d1, d2, g1, g2, l1, l2, hm⟩ := made_eq a0
  refine ⟨102, ?_⟩
  unfold drumlinelaw8_ClockTick.f
  rw [show drumlinelaw8_alive.f = some true by decide +kernel]
  simp only [Option.bind_some, if_true]
  rw [hm]
  simp only [Option.bind_some]
  rw [w64 (x := -dr) (by omega) (by omega), w64 (x := -300000) (by omega) (by omega)]
  by_cases e0 : p < -dr
  · rw [if_pos e0]; exact t0_true 101 _ _ _ _ _ _ _ _ _ _ _ _ _ _ _ _ _ _ _ 
  rw [if_neg e0]
  by_cases e1 : p > dr
  · rw [if_pos e1]; exact t0_true 101 _ _ _ _ _ _ _ _ _ _ _ _ _ _ _ _ _ _ _ 
  rw [if_neg e1]
  by_cases e2 : q < -dr
  · rw [if_pos e2]; exact t0_true 101 _ _ _ _ _ _ _ _ _ _ _ _ _ _ _ _ _ _ _ 
  rw [if_neg e2]
  by_cases e3 : q > dr
  · rw [if_pos e3]; exact t0_true 101 _ _ _ _ _ _ _ _ _ _ _ _ _ _ _ _ _ _ _ 
  rw [if_neg e3]
  by_cases e4 : r < -300000
  · rw [if_pos e4]; exact t0_true 101 _ _ _ _ _ _ _ _ _ _ _ _ _ _ _ _ _ _ _ 
  rw [if_neg e4]
  by_cases e5 : r > 300000
  · rw [if_pos e5]; exact t0_true 101 _ _ _ _ _ _ _ _ _ _ _ _ _ _ _ _ _ _ _ 
  rw [if_neg e5]
  by_cases e6 : a < -549755813888
  · rw [if_pos e6]; exact t0_true 101 _ _ _ _ _ _ _ _ _ _ _ _ _ _ _ _ _ _ _ 
  rw [if_neg e6]
  by_cases e7 : a > 549755813888
  · rw [if_pos e7]; exact t0_true 101 _ _ _ _ _ _ _ _ _ _ _ _ _ _ _ _ _ _ _ 
  rw [if_neg e7]
  by_cases e8 : b < -549755813888
  · rw [if_pos e8]; exact t0_true 101 _ _ _ _ _ _ _ _ _ _ _ _ _ _ _ _ _ _ _ 
  rw [if_neg e8]
  by_cases e9 : b > 549755813888
  · rw [decide_eq_true e9]; exact t0_true 101 _ _ _ _ _ _ _ _ _ _ _ _ _ _ _ _ _ _ _ 
  rw [decide_eq_false e9]
  exact t0_false r t p q a b dr cyc ag lo li sp _ _ (in_eq x s hq1 hq4 hs3 d1 d2 c1 c2 (by omega) (by omega) g1 g2 l1 l2) c1 c2 d1 d2 (Edge_eq x s hq1 hq4 hs3 d1 d2 c1 c2 (by omega) (by omega) g1 g2 l1 l2) t0 t1 (by omega) (by omega) (by omega) (by omega) (by omega) (by omega) (by omega) (by omega) (by omega) (by omega)
end Go.Proofs.YtkhlndhleiaokaaDoor.Pure
