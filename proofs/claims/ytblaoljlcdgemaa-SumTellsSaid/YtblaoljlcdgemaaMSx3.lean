/- Made for this claim by a program of this session (wip/mp.py). -/
import Derived.Lib.SlBytesConst
import Derived.Test.YtblaoljlcdgemaaMSx0
import Derived.Test.YtblaoljlcdgemaaMSx1
import Derived.Test.YtblaoljlcdgemaaMSx2
namespace Go.Proofs.Ytblaoljlcdgemaa.MS
open Go.RowKit Go.Proofs.YtblaoljlcdgemaaW.PrintWords Go.Proofs.YtblaoljlcdgemaaW.PrintLast Go.Proofs.YtblaoljlcdgemaaW.PrintMore
attribute [local go_sem] mp_u32s mp_u32m mp_u8s mp_u8m max2_int min2_int max_two min_two max_three min_three max_four min_four   -- for this text's walks alone
set_option linter.unusedVariables false
set_option linter.unusedSimpArgs false

/-! ### drumlinelaw2_alive: function 26 -/
def drumlinelaw2_alive.f (k : Nat)  : Option (Bool) := (sum_Seal.f k (([5] : List Int))).bind fun t125 => ((sum_Open.f k t125).bind fun bt128 => ((sum_Open.f k (([1, 2, 3] : List Int))).bind fun bt135 => ((sum_Of.f k (([49, 50, 51, 52, 53, 54, 55, 56, 57] : List Int))).bind fun t142 => (if t142 = 4236843288 then (if bt128.2 = true then (if bt135.2 = true then (some false) else (if (bt128.1.length : Int) = 1 then (if 0 < (bt128.1.length : Int) then (some ((rd bt128.1 0) == 5)) else (none)) else (some false))) else (some false)) else (some false)))))
theorem drumlinelaw2_alive.mono : ∀ k, LeO (drumlinelaw2_alive.f k ) (drumlinelaw2_alive.f (k + 1) ) := by
  intro  k
  unfold drumlinelaw2_alive.f
  repeat' first
      | (with_reducible exact sum_Of.mono _ _)
      | (with_reducible exact sum_Open.mono _ _)
      | (with_reducible exact sum_Seal.mono _ _)
      | (with_reducible exact LeO.refl _)
      | (with_reducible exact LeO.none _)
      | (with_reducible refine LeO.ite ?_ ?_)
      | (with_reducible refine LeO.bind ?_ (fun _ => ?_))
      | exact sum_Of.mono _ _
      | exact sum_Open.mono _ _
      | exact sum_Seal.mono _ _
      | exact LeO.none _
      | refine LeO.ite ?_ ?_
      | refine LeO.bind ?_ (fun _ => ?_)
theorem lit_reads {W : World} {b : Nat} (xs : List Int) (hn : xs.length ≤ 100) (h : ∀ j, j < xs.length → W.cell? ⟨b, j, none⟩ = some (.int .u8 (xs.getD j 0))) : Kd.C (Kd.int .u8) W (some ⟨b, 0, none⟩) xs.length xs :=
  Kd.C_of_reads (d := (0 : Int)) (h1 := fun _ => rfl) ⟨rfl, by omega, fun _ => ⟨_, rfl, fun j hj => by rw [add_plain]; exact h j hj⟩⟩
theorem lit_block {w : World} (xs : List Int) (hn : xs.length ≤ 100) (fr : Nat × Nat) : Kd.C (Kd.int .u8) (w.alloc (.cells (nums .u8 xs).toArray 5 fr)) (some ⟨w.heap.size, 0, none⟩) xs.length xs :=
  lit_reads xs hn (fun j hj => by
    have : (w.alloc (.cells (nums .u8 xs).toArray 5 fr)).cell? ⟨w.heap.size, j, none⟩ = (nums .u8 xs)[j]? := by
      have h := World.cell?_alloc_mark w (nums .u8 xs).toArray 5 fr j
      simpa using h
    rw [this]
    simp [nums, List.getElem?_eq_getElem hj, List.getD_eq_getElem?_getD])
theorem seal5 : sum_Seal.f 100 [5] = some [5, 166, 50, 43, 32] := by decide +kernel
theorem open5 : sum_Open.f 100 [5, 166, 50, 43, 32] = some ([5], true) := by decide +kernel
theorem open3 : sum_Open.f 100 [1, 2, 3] = some ([], false) := by decide +kernel
theorem of9 : sum_Of.f 100 [49, 50, 51, 52, 53, 54, 55, 56, 57] = some 4236843288 := by decide +kernel
set_option maxHeartbeats 1000000 in
theorem alive_walk (w : World) : Calls Try.prog 26 #[] w fun e w' => e = .returned (.bool true) ∧ Below w.heap.size w w' := by
  have kc := fun (w : World) (C : Array Value) (n c : Nat) => Lib.run_convert_bytes_const (P := Try.prog) w 34 5 C n c Try.underlying34 Try.underlying5
  go_enter Try.func26, Try.ntmps26
  go_wp2_with fail
  refine (sum_Seal.calls 100 _ _ [5] _ _ (lit_block [5] (by decide) (0, 0)) (by simp) seal5).mono ?_
  rintro e w1 ⟨v1, rfl, hR1, hb1⟩
  obtain ⟨A1, c1, e1⟩ := Kd.R_slice hR1
  subst e1
  have HR1 := Aside0.mk hR1
  clear hR1
  go_wp2_with fail
  refine (sum_Open.calls 100 A1 c1 [5, 166, 50, 43, 32] [5] true w1 (Kd.R_reads' HR1.out).2.2 (Kd.R_reads' HR1.out).2.1 open5).mono ?_
  rintro e w2 ⟨v2, rfl, hR2, hb2⟩
  obtain ⟨A2, c2, e2⟩ := Kd.R_slice hR2
  subst e2
  have HR2 := Aside0.mk hR2
  clear hR2
  go_wp2_with fail
  refine (sum_Open.calls 100 _ _ [1, 2, 3] _ _ _ (lit_block [1, 2, 3] (by decide) (0, 0)) (by simp) open3).mono ?_
  rintro e w3 ⟨v3, rfl, hR3, hb3⟩
  obtain ⟨A3, c3, e3⟩ := Kd.R_slice hR3
  subst e3
  clear hR3
  go_wp2_with fail
  have HC2 : Kd.C (Kd.int .u8) w3 A2 [5].length [5] := Kd.C_below (Kd.C_below (Kd.R_reads' HR2.out).2.2 (below_alloc (Below.refl _ _) _)) hb3
  have b4 : Below w.heap.size w w3 := below_then (below_alloc (below_then (below_then (below_alloc (Below.refl _ _) _) (by simp) hb1) (by have := hb1.size; simp at this; omega) hb2) _) (by have := hb1.size; have := hb2.size; simp at *; omega) hb3
  refine (sum_Of.calls 100 _ _ [49, 50, 51, 52, 53, 54, 55, 56, 57] _ _ (lit_block [49, 50, 51, 52, 53, 54, 55, 56, 57] (by decide) (9, 10)) (by simp) of9).mono ?_
  rintro e w4 ⟨rfl, ⟨nd, rfl⟩⟩
  obtain ⟨ad, rfl, hx⟩ := Kd.at_int (Kd.C_drewN (Kd.C_below HC2 (below_alloc (Below.refl _ _) (Obj.cells (nums .u8 [49, 50, 51, 52, 53, 54, 55, 56, 57]).toArray 5 (9, 10)))) nd) 0 (by decide) (by simp)
  rw [show ((0 : Int)).toNat = 0 from rfl, Addr.add_zero'] at hx
  have hx' : ((w3.alloc (Obj.cells (nums .u8 [49, 50, 51, 52, 53, 54, 55, 56, 57]).toArray 5 (9, 10))).drewN nd).cell? ad = some (.int .u8 5) := hx
  clear hx
  go_wp2_with fail
  go_ret
  exact ⟨rfl, below_then (pw_below_drewN (below_alloc b4 _) nd) (by have := b4.size; simp; omega) (Below.refl _ _)⟩
theorem drumlinelaw2_alive.calls (k : Nat)  (r : Bool) (w : World) (h : drumlinelaw2_alive.f k  = some r) :
    Calls Try.prog 26 #[] w fun e w' => e = .returned (.bool r) ∧ Below w.heap.size w w' := by
  have h1 : drumlinelaw2_alive.f 100 = some true := by decide +kernel
  have m : ∀ n, LeO (drumlinelaw2_alive.f n) (drumlinelaw2_alive.f (n + 1)) := fun n => drumlinelaw2_alive.mono n
  have a := at_rounds m (Nat.le_max_left k 100) h
  have b := at_rounds m (Nat.le_max_right k 100) h1
  obtain rfl : r = true := Option.some.inj (a.symm.trans b)
  exact alive_walk w

/-! ### drumlineref1_Eight: function 37 -/
def drumlineref1_Eight.l0 : Nat → Int → Int → Option (Int)
  | 0, _, _ => none
  | k + 1, x0, x3 => if x3 < 8 then (if (x0 / 2147483648) = 1 then (drumlineref1_Eight.l0 k (Go.bits .xor .u32 ((x0 * 2) % 4294967296) 79764919) (wrap64 (x3 + 1))) else (drumlineref1_Eight.l0 k ((x0 * 2) % 4294967296) (wrap64 (x3 + 1)))) else (some x0)
def drumlineref1_Eight.f (k : Nat) (a0 : Int) : Option (Int) := drumlineref1_Eight.l0 k a0 0
theorem drumlineref1_Eight.mono_l : ∀ k, (∀ y0 y1, LeO (drumlineref1_Eight.l0 k y0 y1) (drumlineref1_Eight.l0 (k + 1) y0 y1))
  | 0 => fun _ _ r h => by simp [drumlineref1_Eight.l0] at h
  | k + 1 => by
    have ih0 := drumlineref1_Eight.mono_l k
    · intro y0 y1
      unfold drumlineref1_Eight.l0
      repeat' first
      | (with_reducible exact ih0 _ _)
      | (with_reducible exact LeO.refl _)
      | (with_reducible exact LeO.none _)
      | (with_reducible refine LeO.ite ?_ ?_)
      | (with_reducible refine LeO.bind ?_ (fun _ => ?_))
      | exact ih0 _ _
      | exact LeO.none _
      | refine LeO.ite ?_ ?_
      | refine LeO.bind ?_ (fun _ => ?_)
theorem drumlineref1_Eight.mono : ∀ a0 k, LeO (drumlineref1_Eight.f k a0) (drumlineref1_Eight.f (k + 1) a0) := by
  intro a0 k
  have ih0 := drumlineref1_Eight.mono_l k
  unfold drumlineref1_Eight.f
  repeat' first
      | (with_reducible exact ih0 _ _)
      | (with_reducible exact LeO.refl _)
      | (with_reducible exact LeO.none _)
      | (with_reducible refine LeO.ite ?_ ?_)
      | (with_reducible refine LeO.bind ?_ (fun _ => ?_))
      | exact ih0 _ _
      | exact LeO.none _
      | refine LeO.ite ?_ ?_
      | refine LeO.bind ?_ (fun _ => ?_)
set_option maxHeartbeats 8000000 in
set_option maxRecDepth 100000 in
theorem drumlineref1_Eight.calls (k : Nat) (a0 : Int) (r : Int) (w : World) (h : drumlineref1_Eight.f k a0 = some r) :
    Calls Try.prog 37 #[.int .u32 a0] w fun e w' => e = .returned (.int .u32 r) ∧ Drawn0 w w' := by
  have H : (drumlineref1_Eight.l0 k a0 0) = some r := h
  clear h
  have H' := Aside0.mk H
  clear H
  go_enter Try.func37, Try.ntmps37
  go_wp2
  go_loopg [0, 3] k (fun kq v0 v3 w' => ∃ (x0_1 : Int) (x3_1 : Int), v0 = .int .u32 x0_1 ∧ v3 = .int .i64 x3_1 ∧ Aside0 (drumlineref1_Eight.l0 kq x0_1 x3_1 = some r) ∧ Aside0 (kq ≤ k) ∧ Drawn0 w w')
  case atStart => exact ⟨(a0), (0), (by first | rfl | (simp; done) | (simp [*]; done)), (by first | rfl | (simp; done) | (simp [*]; done)), H', ⟨Nat.le_refl _⟩, by repeat (first | exact Drawn0.refl _ | apply Drawn0.step)⟩
  case round =>
    clear H'
    obtain ⟨x0_1, x3_1, rfl, rfl, HA, HK1, ⟨m1, rfl⟩⟩ := hrel
    cases gk with
    | zero => exact absurd HA.out (by simp [drumlineref1_Eight.l0])
    | succ k1 =>
      have H := HA.out
      clear HA
      simp only [drumlineref1_Eight.l0] at H
      by_cases c2 : x3_1 < 8
      · rw [if_pos c2] at H
        have c2b0 : decide (x3_1 < 8) = true := decide_eq_true c2
        clear c2
        by_cases c3 : (x0_1 / 2147483648) = 1
        · rw [if_pos c3] at H
          have c3b0 : ((x0_1 / 2147483648) == 1) = true := beq_iff_eq.mpr c3
          have c3b1 : ((x0_1 / 2147483648) != 1) = false := bne_eq_false_iff_eq.mpr c3
          clear c3
          have H' := Aside0.mk H
          clear H
          go_wp2
          go_roundg k1
          case measure => have := HK1.out; omega
          case rel => exact ⟨(Go.bits .xor .u32 ((x0_1 * 2) % 4294967296) 79764919), (wrap64 (x3_1 + 1)), (by first | rfl | (simp; done) | (simp [*]; done)), (by first | rfl | (simp; done) | (simp [*]; done)), H', ⟨by have := HK1.out; omega⟩, by repeat (first | exact Drawn0.refl _ | apply Drawn0.step)⟩
        · rw [if_neg c3] at H
          have c3b0 : ((x0_1 / 2147483648) == 1) = false := beq_eq_false_iff_ne.mpr c3
          have c3b1 : ((x0_1 / 2147483648) != 1) = true := bne_iff_ne.mpr c3
          have H' := Aside0.mk H
          clear H
          go_wp2
          go_roundg k1
          case measure => have := HK1.out; omega
          case rel => exact ⟨((x0_1 * 2) % 4294967296), (wrap64 (x3_1 + 1)), (by first | rfl | (simp; done) | (simp [*]; done)), (by first | rfl | (simp; done) | (simp [*]; done)), H', ⟨by have := HK1.out; omega⟩, by repeat (first | exact Drawn0.refl _ | apply Drawn0.step)⟩
      · rw [if_neg c2] at H
        have c2b0 : decide (x3_1 < 8) = false := decide_eq_false c2
        clear c2
        obtain rfl := Option.some.inj H
        go_wp2
        go_ret
        exact ⟨by first | rfl | (simp; done) | (simp [*]; done), by repeat (first | exact Drawn0.refl _ | apply Drawn0.step)⟩

/-! ### drumlineref1_More: function 28 -/
def drumlineref1_More.l0 : Nat → Int → List Int → Int → Option (Int)
  | 0, _, _, _ => none
  | k + 1, x0, x1, x5 => if x5 < (x1.length : Int) then (if 0 ≤ x5 then ((drumlineref1_Eight.f k (Go.bits .xor .u32 x0 ((((rd x1 x5) % 4294967296) * 16777216) % 4294967296))).bind fun t145 => (drumlineref1_More.l0 k t145 x1 (wrap64 (x5 + 1)))) else (none)) else (some (Go.bits .xor .u32 4294967295 x0))
def drumlineref1_More.f (k : Nat) (a0 : Int) (l1 : List Int) : Option (Int) := drumlineref1_More.l0 k (Go.bits .xor .u32 4294967295 a0) l1 0
theorem drumlineref1_More.mono_l : ∀ k, (∀ y0 y1 y2, LeO (drumlineref1_More.l0 k y0 y1 y2) (drumlineref1_More.l0 (k + 1) y0 y1 y2))
  | 0 => fun _ _ _ r h => by simp [drumlineref1_More.l0] at h
  | k + 1 => by
    have ih0 := drumlineref1_More.mono_l k
    · intro y0 y1 y2
      unfold drumlineref1_More.l0
      repeat' first
      | (with_reducible exact ih0 _ _ _)
      | (with_reducible exact drumlineref1_Eight.mono _ _)
      | (with_reducible exact LeO.refl _)
      | (with_reducible exact LeO.none _)
      | (with_reducible refine LeO.ite ?_ ?_)
      | (with_reducible refine LeO.bind ?_ (fun _ => ?_))
      | exact ih0 _ _ _
      | exact drumlineref1_Eight.mono _ _
      | exact LeO.none _
      | refine LeO.ite ?_ ?_
      | refine LeO.bind ?_ (fun _ => ?_)
theorem drumlineref1_More.mono : ∀ a0 a1 k, LeO (drumlineref1_More.f k a0 a1) (drumlineref1_More.f (k + 1) a0 a1) := by
  intro a0 a1 k
  have ih0 := drumlineref1_More.mono_l k
  unfold drumlineref1_More.f
  repeat' first
      | (with_reducible exact ih0 _ _ _)
      | (with_reducible exact drumlineref1_Eight.mono _ _)
      | (with_reducible exact LeO.refl _)
      | (with_reducible exact LeO.none _)
      | (with_reducible refine LeO.ite ?_ ?_)
      | (with_reducible refine LeO.bind ?_ (fun _ => ?_))
      | exact ih0 _ _ _
      | exact drumlineref1_Eight.mono _ _
      | exact LeO.none _
      | refine LeO.ite ?_ ?_
      | refine LeO.bind ?_ (fun _ => ?_)
set_option maxHeartbeats 8000000 in
set_option maxRecDepth 100000 in
theorem drumlineref1_More.calls (k : Nat) (a0 : Int) (A1 : Option Addr) (c1 : Nat) (l1 : List Int) (r : Int) (w : World) (hr1 : Kd.C (Kd.int .u8) w A1 l1.length l1) (hc1 : l1.length ≤ c1) (h : drumlineref1_More.f k a0 l1 = some r) :
    Calls Try.prog 28 #[.int .u32 a0, .slice A1 l1.length c1] w fun e w' => e = .returned (.int .u32 r) ∧ Drawn0 w w' := by
  have HR1 := Aside0.mk hr1
  have HC1 := Aside0.mk hc1
  clear hr1 hc1
  have H : (drumlineref1_More.l0 k (Go.bits .xor .u32 4294967295 a0) l1 0) = some r := h
  clear h
  have H' := Aside0.mk H
  clear H
  go_enter Try.func28, Try.ntmps28
  go_wp2
  go_loopg [0, 5] k (fun kq v0 v5 w' => ∃ (x0_1 : Int) (x5_1 : Int), v0 = .int .u32 x0_1 ∧ v5 = .int .i64 x5_1 ∧ Aside0 (drumlineref1_More.l0 kq x0_1 l1 x5_1 = some r) ∧ Aside0 (kq ≤ k) ∧ Drawn0 w w')
  case atStart => exact ⟨(Go.bits .xor .u32 4294967295 a0), (0), (by first | rfl | (simp; done) | (simp [*]; done)), (by first | rfl | (simp; done) | (simp [*]; done)), H', ⟨Nat.le_refl _⟩, by repeat (first | exact Drawn0.refl _ | apply Drawn0.step)⟩
  case round =>
    clear H'
    try clear c1
    try clear c2
    try clear p2
    obtain ⟨x0_1, x5_1, rfl, rfl, HA, HK1, ⟨m1, rfl⟩⟩ := hrel
    cases gk with
    | zero => exact absurd HA.out (by simp [drumlineref1_More.l0])
    | succ k1 =>
      have H := HA.out
      clear HA
      simp only [drumlineref1_More.l0] at H
      by_cases c3 : x5_1 < (l1.length : Int)
      · rw [if_pos c3] at H
        have c3b0 : decide (x5_1 < (l1.length : Int)) = true := decide_eq_true c3
        clear c3
        by_cases c4 : 0 ≤ x5_1
        · rw [if_pos c4] at H
          have c4b0 : decide (0 ≤ x5_1) = true := decide_eq_true c4
          clear c4
          replace H := Option.bind_eq_some_iff.mp H
          obtain ⟨t145, A50, H⟩ := H
          replace H : (drumlineref1_More.l0 k1 t145 l1 (wrap64 (x5_1 + 1))) = some r := H
          have A5 := Aside0.mk A50
          clear A50
          have H' := Aside0.mk H
          clear H
          have p144 : 0 ≤ (x5_1 : Int) := of_decide_eq_true (by first | (with_reducible assumption) | assumption)
          have q144 : x5_1 < (l1.length : Int) := of_decide_eq_true (by first | (with_reducible assumption) | assumption)
          obtain ⟨ad144, e144, hx144_0⟩ := Kd.at_int HR1.out x5_1 p144 q144
          cases e144
          replace p144 := eq_true p144
          replace q144 := eq_true q144
          go_wp2_with (first | ((with_reducible refine gate_callee (f := 37) rfl ?_); refine goesL_ (some 22) rfl rfl Try.func37 (by kernel_rfl) rfl #[.int .u32 (Go.bits .xor .u32 x0_1 ((((rd l1 x5_1) % 4294967296) * 16777216) % 4294967296))] rfl (by (try simp only [List.map_toArray, List.map_cons, List.map_nil]); first | done | rfl | (simp only [List.length_drop, List.length_take]; rfl)) ?_; (with_reducible refine (drumlineref1_Eight.calls k1 (Go.bits .xor .u32 x0_1 ((((rd l1 x5_1) % 4294967296) * 16777216) % 4294967296)) t145 _ A5.out).mono ?_); rintro e w' ⟨rfl, ⟨nd, rfl⟩⟩; refine ⟨_, rfl, ?_⟩))
          go_roundg k1
          case measure => have := HK1.out; omega
          case rel => exact ⟨(t145), (wrap64 (x5_1 + 1)), (by first | rfl | (simp; done) | (simp [*]; done)), (by first | rfl | (simp; done) | (simp [*]; done)), H', ⟨by have := HK1.out; omega⟩, by repeat (first | exact Drawn0.refl _ | apply Drawn0.step)⟩
        · rw [if_neg c4] at H
          exact absurd H (by simp)
      · rw [if_neg c3] at H
        have c3b0 : decide (x5_1 < (l1.length : Int)) = false := decide_eq_false c3
        clear c3
        obtain rfl := Option.some.inj H
        go_wp2
        go_ret
        exact ⟨by first | rfl | (simp; done) | (simp [*]; done), by repeat (first | exact Drawn0.refl _ | apply Drawn0.step)⟩

end Go.Proofs.Ytblaoljlcdgemaa.MS
