/- Plain facts on whole numbers that the proofs of this seat share: what fits into 64 bits, and quotients rounded down and up. -/
import Derived.RowKit
namespace Go.Proofs.Ytblaoljlcdgemaa.Plain
open Go.RowKit

theorem wf64 {a : Int} (h : (Lit.int .i64 a).wf = true) : -9223372036854775808 ≤ a ∧ a ≤ 9223372036854775807 := by
  simp [Lit.wf, IntKind.min, IntKind.max, IntKind.signed, IntKind.bits] at h; omega
theorem wf32 {a : Int} (h : (Lit.int .i32 a).wf = true) : -2147483648 ≤ a ∧ a ≤ 2147483647 := by
  simp [Lit.wf, IntKind.min, IntKind.max, IntKind.signed, IntKind.bits] at h; omega
theorem wf16 {a : Int} (h : (Lit.int .i16 a).wf = true) : -32768 ≤ a ∧ a ≤ 32767 := by
  simp [Lit.wf, IntKind.min, IntKind.max, IntKind.signed, IntKind.bits] at h; omega
theorem wfu16 {a : Int} (h : (Lit.int .u16 a).wf = true) : 0 ≤ a ∧ a ≤ 65535 := by
  simp [Lit.wf, IntKind.min, IntKind.max, IntKind.signed, IntKind.bits] at h; omega
theorem wfu32 {a : Int} (h : (Lit.int .u32 a).wf = true) : 0 ≤ a ∧ a ≤ 4294967295 := by
  simp [Lit.wf, IntKind.min, IntKind.max, IntKind.signed, IntKind.bits] at h; omega
theorem wfu8 {a : Int} (h : (Lit.int .u8 a).wf = true) : 0 ≤ a ∧ a ≤ 255 := by
  simp [Lit.wf, IntKind.min, IntKind.max, IntKind.signed, IntKind.bits] at h; omega

theorem w64 {x : Int} (h1 : -9223372036854775808 ≤ x) (h2 : x ≤ 9223372036854775807) : wrap64 x = x := by
  unfold wrap64; omega

/-- What truncation gives of a number and one above 0. -/
theorem tdiv_le {a b : Int} (hb : 1 ≤ b) (h1 : -9223372036854775808 ≤ a) (h2 : a ≤ 9223372036854775807) : -9223372036854775808 ≤ Int.tdiv a b ∧ Int.tdiv a b ≤ 9223372036854775807 := by
  rcases Int.lt_or_le a 0 with h | h
  · have e : Int.tdiv a b = -((-a) / b) := by
      rw [show a = -(-a) by omega, Int.neg_tdiv, Int.neg_neg, Int.tdiv_eq_ediv_of_nonneg (by omega)]
    have h3 : 0 ≤ (-a) / b := Int.ediv_nonneg (by omega) (by omega)
    have h4 : (-a) / b ≤ -a := Int.ediv_le_self _ (by omega)
    omega
  · have e : Int.tdiv a b = a / b := Int.tdiv_eq_ediv_of_nonneg h
    have h3 : 0 ≤ a / b := Int.ediv_nonneg h (by omega)
    have h4 : a / b ≤ a := Int.ediv_le_self _ h
    omega

/-- The quotient rounded down. -/
def flo (a b : Int) : Int := a / b
/-- The quotient rounded up. -/
def cei (a b : Int) : Int := -((-a) / b)

theorem flo_le {a b : Int} (hb : 1 ≤ b) : flo a b * b ≤ a ∧ a < flo a b * b + b := by
  unfold flo
  have h1 := Int.emod_nonneg a (show b ≠ 0 by omega)
  have h2 := Int.emod_lt_of_pos a (show 0 < b by omega)
  have h3 := Int.mul_ediv_add_emod a b
  rw [Int.mul_comm] at h3
  omega
theorem cei_le {a b : Int} (hb : 1 ≤ b) : a ≤ cei a b * b ∧ cei a b * b < a + b := by
  have h := flo_le (a := -a) hb
  unfold cei
  unfold flo at h
  rw [Int.neg_mul]
  omega

theorem rem_neg {a b : Int} (h : a < 0) : Int.tdiv a b = -((-a) / b) ∧ Int.tmod a b = -((-a) % b) := by
  constructor
  · rw [show a = -(-a) by omega, Int.neg_tdiv, Int.neg_neg, Int.tdiv_eq_ediv_of_nonneg (by omega)]
  · rw [show a = -(-a) by omega, Int.neg_tmod, Int.neg_neg, Int.tmod_eq_emod_of_nonneg (by omega)]
theorem rem_pos {a b : Int} (h : 0 ≤ a) : Int.tdiv a b = a / b ∧ Int.tmod a b = a % b :=
  ⟨Int.tdiv_eq_ediv_of_nonneg h, Int.tmod_eq_emod_of_nonneg h⟩

/-- A number q with q * b ≤ a < q * b + b is the quotient. -/
theorem flo_of {a b q : Int} (hb : 1 ≤ b) (h1 : q * b ≤ a) (h2 : a < q * b + b) : q = flo a b := by
  unfold flo
  have e1 : q ≤ a / b := Int.le_ediv_of_mul_le (by omega) h1
  have e2 : a / b < q + 1 := Int.ediv_lt_of_lt_mul (by omega) (by rw [Int.add_mul]; omega)
  omega
theorem cei_of {a b q : Int} (hb : 1 ≤ b) (h1 : a ≤ q * b) (h2 : q * b < a + b) : q = cei a b := by
  unfold cei
  have := flo_of (a := -a) (b := b) (q := -q) hb (by rw [Int.neg_mul]; omega) (by rw [Int.neg_mul]; omega)
  unfold flo at this
  omega

theorem flo_trunc {a b : Int} (hb : 1 ≤ b) : flo a b = if Int.tmod a b < 0 then Int.tdiv a b - 1 else Int.tdiv a b := by
  have hm := Int.mul_tdiv_add_tmod a b
  rw [Int.mul_comm] at hm
  rcases Int.lt_or_le a 0 with h | h
  · obtain ⟨_, e2⟩ := rem_neg (b := b) h
    have h1 := Int.emod_nonneg (-a) (show b ≠ 0 by omega)
    have h2 := Int.emod_lt_of_pos (-a) (show 0 < b by omega)
    split
    · exact (flo_of hb (by rw [Int.sub_mul]; omega) (by rw [Int.sub_mul]; omega)).symm
    · exact (flo_of hb (by omega) (by omega)).symm
  · obtain ⟨_, e2⟩ := rem_pos (b := b) h
    have h1 := Int.emod_nonneg a (show b ≠ 0 by omega)
    have h2 := Int.emod_lt_of_pos a (show 0 < b by omega)
    rw [if_neg (by omega)]
    exact (flo_of hb (by omega) (by omega)).symm
theorem cei_trunc {a b : Int} (hb : 1 ≤ b) : cei a b = if Int.tmod a b > 0 then Int.tdiv a b + 1 else Int.tdiv a b := by
  have hm := Int.mul_tdiv_add_tmod a b
  rw [Int.mul_comm] at hm
  rcases Int.lt_or_le a 0 with h | h
  · obtain ⟨_, e2⟩ := rem_neg (b := b) h
    have h1 := Int.emod_nonneg (-a) (show b ≠ 0 by omega)
    have h2 := Int.emod_lt_of_pos (-a) (show 0 < b by omega)
    rw [if_neg (by omega)]
    exact (cei_of hb (by omega) (by omega)).symm
  · obtain ⟨_, e2⟩ := rem_pos (b := b) h
    have h1 := Int.emod_nonneg a (show b ≠ 0 by omega)
    have h2 := Int.emod_lt_of_pos a (show 0 < b by omega)
    split
    · exact (cei_of hb (by rw [Int.add_mul]; omega) (by rw [Int.add_mul]; omega)).symm
    · exact (cei_of hb (by omega) (by omega)).symm
theorem flo_bd {a b : Int} (hb : 1 ≤ b) (h1 : -9223372036854775808 ≤ a) (h2 : a ≤ 9223372036854775807) : -9223372036854775808 ≤ flo a b ∧ flo a b ≤ 9223372036854775807 := by
  unfold flo
  exact ⟨by
    apply Int.le_ediv_of_mul_le (by omega)
    have := Int.mul_le_mul_of_nonneg_left (a := 1) (b := b) (c := 9223372036854775808) hb (by omega)
    omega, by
    have := flo_le (a := a) hb
    unfold flo at this
    rcases Int.lt_or_le (a / b) 0 with h | h
    · omega
    · have := Int.mul_le_mul_of_nonneg_left (a := 1) (b := b) (c := a / b) hb h
      omega⟩
/-- The quotients differ by 0 or 1, and are alike where nothing is left. -/
theorem flo_cei {a b : Int} (hb : 1 ≤ b) : (flo a b = cei a b ↔ Int.tmod a b = 0) ∧ cei a b - flo a b ≤ 1 := by
  rw [flo_trunc hb, cei_trunc hb]
  split <;> split <;> omega
theorem flo_mono {u v b : Int} (hb : 1 ≤ b) (h : u ≤ v) : flo u b ≤ flo v b := Int.ediv_le_ediv (by omega) h
theorem flo_sub {u v b : Int} (hb : 1 ≤ b) : flo u b - flo v b ≤ flo (u - v) b + 1 := by
  have h1 := flo_le (a := u) hb
  have h2 := flo_le (a := v) hb
  have h3 := flo_le (a := u - v) hb
  have : (flo u b - flo v b) * b < (flo (u - v) b + 2) * b := by rw [Int.sub_mul, Int.add_mul]; omega
  have := Int.lt_of_mul_lt_mul_right this (by omega)
  omega
end Go.Proofs.Ytblaoljlcdgemaa.Plain
