/- Numbers as bytes, in plain Lean, and that wire's functions and the document's come to it. -/
import Derived.Test.YthkagdbabkkomaaMWix2
import Derived.Test.YthkagdbabkkomaaMWix3
import Derived.Test.YthkagdbabkkomaaMWix6
import Derived.Test.YthkagdbabkkomaaMWix11
import Derived.Test.YthkagdbabkkomaaMWix13
import Derived.Test.YthkagdbabkkomaaMWix14
import Derived.Test.YthkagdbabkkomaaMWix18
import Derived.Test.YthkagdbabkkomaaMWix19
import Derived.Test.YthkagdbabkkomaaMWix20
import Derived.Test.YthkagdbabkkomaaEvl
import Derived.Laws.BitsAllLaws
set_option linter.unusedVariables false
set_option linter.unusedSimpArgs false
namespace Go.Proofs.Ythkagdbabkkomaa.Wire
open Go.RowKit Go.Proofs.Ythkagdbabkkomaa.MWi Go.Proofs.YthkagdbabkkomaaW.PrintWords Go.Proofs.YthkagdbabkkomaaW.PrintLast Go.Proofs.YthkagdbabkkomaaW.PrintMore Go.Proofs.Ythkagdbabkkomaa.Evl

theorem w64 {x : Int} (h1 : -9223372036854775808 ≤ x) (h2 : x ≤ 9223372036854775807) : wrap64 x = x := by
  unfold wrap64; omega
theorem wu64 {x : Int} (h1 : 0 ≤ x) (h2 : x ≤ 18446744073709551615) : IntKind.u64.wrap x = x := by
  simp [IntKind.wrap, IntKind.signed, IntKind.bits]; omega
/-- 256 to the power w. -/
def p : Nat → Int
  | 0 => 1
  | w + 1 => 256 * p w
theorem p_pos : ∀ w, 0 < p w
  | 0 => by decide
  | w + 1 => by have := p_pos w; unfold p; omega
theorem p_pow : ∀ w, p w = 2 ^ (8 * w)
  | 0 => rfl
  | w + 1 => by rw [p, p_pow w, show 8 * (w + 1) = 8 * w + 8 by omega, Int.pow_add]; omega
theorem p_le {w v : Nat} (h : w ≤ v) : p w ≤ p v := by
  induction v with
  | zero => obtain rfl : w = 0 := by omega
            exact Int.le_refl _
  | succ v ih =>
    by_cases e : w = v + 1
    · rw [e]; exact Int.le_refl _
    · have := ih (by omega); have := p_pos v; show p w ≤ 256 * p v; omega
/-- The w bytes of n. -/
def enc (n : Int) : Nat → List Int
  | 0 => []
  | w + 1 => (n / p w % 256) :: enc n w
/-- The number of bytes. -/
def num : List Int → Int
  | [] => 0
  | c :: l => c * p l.length + num l
def Bys (l : List Int) : Prop := ∀ x ∈ l, 0 ≤ x ∧ x ≤ 255
theorem enc_len (n : Int) : ∀ w, (enc n w).length = w
  | 0 => rfl
  | w + 1 => by simp [enc, enc_len n w]
theorem enc_bys (n : Int) : ∀ w, Bys (enc n w)
  | 0 => by intro x hx; simp [enc] at hx
  | w + 1 => by
    intro x hx
    simp only [enc, List.mem_cons] at hx
    rcases hx with rfl | hx
    · omega
    · exact enc_bys n w x hx
theorem num_in : ∀ {l : List Int}, Bys l → 0 ≤ num l ∧ num l < p l.length
  | [], _ => by simp [num, p]
  | c :: l, h => by
    have hc := h c (by simp)
    have hl := num_in (l := l) (fun x hx => h x (by simp [hx]))
    have hp := p_pos l.length
    simp only [num, List.length_cons, p]
    have h1 : 0 ≤ c * p l.length := Int.mul_nonneg hc.1 (by omega)
    have h2 : c * p l.length ≤ 255 * p l.length := Int.mul_le_mul_of_nonneg_right hc.2 (by omega)
    omega
theorem enc_add (n a : Int) : ∀ w, enc (n + a * p w) w = enc n w
  | 0 => rfl
  | w + 1 => by
    have hp := p_pos w
    have e : n + a * p (w + 1) = n + (a * 256) * p w := by rw [p, Int.mul_assoc]
    rw [e]
    simp only [enc]
    rw [enc_add n (a * 256) w, Int.add_mul_ediv_right _ _ (by omega)]
    congr 1
    omega
theorem num_enc (n : Int) : ∀ w, num (enc n w) = n % p w
  | 0 => by simp [enc, num, p]
  | w + 1 => by
    have hp := p_pos w
    simp only [enc, num]
    rw [enc_len, num_enc n w]
    have h1 := Int.mul_ediv_add_emod n (p w)
    have h2 := Int.emod_nonneg n (show p w ≠ 0 by omega)
    have h3 := Int.emod_lt_of_pos n hp
    generalize n / p w = q at *
    generalize n % p w = r at *
    have e : n = (q % 256 * p w + r) + (q / 256) * p (w + 1) := by
      rw [p, ← Int.mul_assoc, ← h1]
      have : q = q % 256 + q / 256 * 256 := by omega
      calc p w * q + r = q * p w + r := by rw [Int.mul_comm]
        _ = (q % 256 + q / 256 * 256) * p w + r := by rw [← this]
        _ = _ := by rw [Int.add_mul]; omega
    rw [e, Int.add_mul_emod_self_right]
    refine (Int.emod_eq_of_lt ?_ ?_).symm
    · have := Int.mul_nonneg (show 0 ≤ q % 256 by omega) (show 0 ≤ p w by omega); omega
    · have : q % 256 * p w ≤ 255 * p w := Int.mul_le_mul_of_nonneg_right (by omega) (by omega)
      rw [p]; omega
theorem enc_num : ∀ {l : List Int}, Bys l → enc (num l) l.length = l
  | [], _ => rfl
  | c :: l, h => by
    have hc := h c (by simp)
    have hb : Bys l := fun x hx => h x (by simp [hx])
    have hl := num_in hb
    have hp := p_pos l.length
    simp only [num, List.length_cons, enc]
    rw [Int.add_comm (c * p l.length), enc_add, enc_num hb, Int.add_mul_ediv_right _ _ (by omega), Int.ediv_eq_zero_of_lt hl.1 hl.2]
    congr 1
    omega
/-- The bytes' order is the numbers'. -/
theorem str_list (l : List Int) : (strOfNums l).toList = l.map (fun n => UInt8.ofNat n.toNat) := by
  rw [ByteArray.toList_eq]
  unfold strOfNums
  simp
theorem str_same {a b : List Int} (ha : Bys a) (hb : Bys b) : (strOfNums a).toList = (strOfNums b).toList ↔ a = b := by
  constructor
  · intro h
    rw [str_list, str_list] at h
    induction a generalizing b with
    | nil => cases b with
      | nil => rfl
      | cons y b => simp at h
    | cons x a ih => cases b with
      | nil => simp at h
      | cons y b =>
        simp only [List.map_cons, List.cons.injEq] at h
        have hx := ha x (by simp)
        have hy := hb y (by simp)
        have e : x = y := by
          have := congrArg UInt8.toNat h.1
          simp only [UInt8.toNat_ofNat'] at this
          omega
        rw [e, ih (fun z hz => ha z (by simp [hz])) (fun z hz => hb z (by simp [hz])) h.2]
  · intro h; rw [h]
theorem less_enc (a b : Int) : ∀ w, Op.bytesLess ((enc a w).map (fun n => UInt8.ofNat n.toNat)) ((enc b w).map (fun n => UInt8.ofNat n.toNat)) = decide (num (enc a w) < num (enc b w))
  | 0 => by simp [enc, num, Op.bytesLess]
  | w + 1 => by
    have ha := num_in (enc_bys a w)
    have hb := num_in (enc_bys b w)
    have hp := p_pos w
    rw [enc_len] at ha hb
    simp only [enc, List.map_cons, Op.bytesLess, less_enc a b w, num, enc_len]
    have hx : 0 ≤ a / p w % 256 ∧ a / p w % 256 ≤ 255 := by omega
    have hy : 0 ≤ b / p w % 256 ∧ b / p w % 256 ≤ 255 := by omega
    generalize a / p w % 256 = x at *
    generalize b / p w % 256 = y at *
    generalize num (enc a w) = u at *
    generalize num (enc b w) = v at *
    have e1 : (UInt8.ofNat x.toNat < UInt8.ofNat y.toNat) ↔ x < y := by
      rw [UInt8.lt_iff_toNat_lt]; simp only [UInt8.toNat_ofNat']; omega
    have e2 : (UInt8.ofNat x.toNat == UInt8.ofNat y.toNat) = decide (x = y) := by
      by_cases h : x = y
      · subst h; simp
      · have : UInt8.ofNat x.toNat ≠ UInt8.ofNat y.toNat := fun k => h (by have := congrArg UInt8.toNat k; simp only [UInt8.toNat_ofNat'] at this; omega)
        simp [h, this]
    rw [e2, decide_eq_decide.2 e1]
    rcases Int.lt_trichotomy x y with h | h | h
    · have h2 : (x + 1) * p w ≤ y * p w := Int.mul_le_mul_of_nonneg_right (by omega) (by omega)
      rw [Int.add_mul] at h2
      rw [decide_eq_true h, decide_eq_true (show x * p w + u < y * p w + v by omega)]
      simp
    · subst h
      by_cases k : u < v
      · rw [decide_eq_true k, decide_eq_true (show x * p w + u < x * p w + v by omega)]; simp
      · rw [decide_eq_false k, decide_eq_false (show ¬ x * p w + u < x * p w + v by omega)]; simp
    · have h2 : (y + 1) * p w ≤ x * p w := Int.mul_le_mul_of_nonneg_right (by omega) (by omega)
      rw [Int.add_mul] at h2
      rw [decide_eq_false (show ¬ x < y by omega), decide_eq_false (show ¬ x = y by omega), decide_eq_false (show ¬ x * p w + u < y * p w + v by omega)]
      simp
/-! ### what Go's operations come to -/
theorem shl1 : ∀ m : Nat, m ≤ 7 → shl .i64 1 (8 * (m : Int)) = p m := by decide +kernel
theorem shl1h : ∀ m : Nat, m ≤ 6 → shl .i64 1 (8 * ((m : Int) + 1) - 1) = 128 * p m := by decide +kernel
theorem shrp (n : Int) {m : Nat} (h : m ≤ 7) : shr .i64 n (8 * (m : Int)) = n / p m := by
  unfold shr
  rw [p_pow, show (8 * (m : Int)).toNat = 8 * m by omega, Nat.min_eq_left (show 8 * m ≤ IntKind.i64.bits by show 8 * m ≤ 64; omega)]
theorem orc {a c : Int} (a0 : 0 ≤ a) (a1 : a < 281474976710656) (c0 : 0 ≤ c) (c1 : c ≤ 255) : Go.bits .or .i64 (wrap64 (a * 256)) (wrap64 c) = a * 256 + c := by
  rw [w64 (by omega) (by omega), w64 (x := c) (by omega) (by omega)]
  obtain ⟨x, rfl⟩ := Int.eq_ofNat_of_zero_le a0
  obtain ⟨y, rfl⟩ := Int.eq_ofNat_of_zero_le c0
  have e : x * 256 + y = x * 256 ||| y := by
    have := Nat.shiftLeft_add_eq_or_of_lt (i := 8) (b := y) (by omega) x
    rw [Nat.shiftLeft_eq] at this
    exact this
  unfold Go.bits
  simp only
  rw [show ((x : Int) * 256) = ((x * 256 : Nat) : Int) by simp, BitVec.ofInt_natCast, BitVec.ofInt_natCast, BitVec.toNat_or, BitVec.toNat_ofNat, BitVec.toNat_ofNat, Nat.mod_eq_of_lt (show x * 256 < 2 ^ IntKind.i64.bits by show x * 256 < 18446744073709551616; omega), Nat.mod_eq_of_lt (show y < 2 ^ IntKind.i64.bits by show y < 18446744073709551616; omega), ← e, IntKind.wrap_i64]
  omega
/-! ### what the functions come to -/
theorem put_loop (n : Int) (w : Nat) (hw : w ≤ 7) : ∀ (m : Nat) (pre : List Int), pre.length + m = w →
    Evl (fun k => wire_put.l0 k n (w : Int) (pre ++ List.replicate m 0) (w : Int) (pre.length : Int)) (pre ++ enc n m)
  | 0, pre, h => by
    refine Evl.stop fun k => ?_
    rw [wire_put.l0, if_neg (by omega)]
    rfl
  | m + 1, pre, h => by
    have ih := put_loop n w hw m (pre ++ [n / p m % 256]) (by simp; omega)
    rw [show pre ++ [n / p m % 256] ++ enc n m = pre ++ enc n (m + 1) by simp [enc]] at ih
    refine Evl.step (fun k => ?_) ih
    rw [wire_put.l0, if_pos (by omega), w64 (x := (w : Int) - 1) (by omega) (by omega), w64 (x := (w : Int) - 1 - (pre.length : Int)) (by omega) (by omega), show (w : Int) - 1 - (pre.length : Int) = (m : Int) by omega, w64 (x := 8 * (m : Int)) (by omega) (by omega), if_pos (by omega), if_pos (by omega), if_pos (by simp; omega), shrp n (by omega), w64 (x := (pre.length : Int) + 1) (by omega) (by omega)]
    have e : (pre ++ List.replicate (m + 1) 0).set (pre.length : Int).toNat (n / p m % 256) = (pre ++ [n / p m % 256]) ++ List.replicate m 0 := by
      rw [Int.toNat_natCast, List.set_append_right _ _ (Nat.le_refl _), Nat.sub_self, List.replicate_succ]
      simp
    rw [e]
    simp only [enc, List.append_assoc, List.singleton_append, List.length_append, List.length_singleton, Int.natCast_add, Int.natCast_one]
theorem put_evl (n : Int) {w : Nat} (hw : w ≤ 7) : Evl (fun k => wire_put.f k n (w : Int)) (enc n w) := by
  have h := put_loop n w hw w [] (by simp)
  refine Evl.congr (fun k => ?_) h
  rw [wire_put.f, if_pos (by omega), if_pos (by omega)]
  simp
theorem right_is (w : Int) : wire_right.f w = some (decide (1 ≤ w ∧ w ≤ 7)) := by
  unfold wire_right.f
  by_cases h1 : 1 ≤ w
  · rw [if_pos h1]; simp [h1]
  · rw [if_neg h1]; simp [h1]
/-- Plain's answer. -/
def plainR (n w : Int) : List Int × Bool := if 1 ≤ w ∧ w ≤ 7 ∧ 0 ≤ n ∧ n < p w.toNat then (enc n w.toNat, true) else ([], false)
theorem plain_evl (n w : Int) : Evl (fun k => wire_Plain.f k n w) (plainR n w) := by
  unfold wire_Plain.f plainR
  rw [right_is]
  simp only [Option.bind_some]
  by_cases hw : 1 ≤ w ∧ w ≤ 7
  · obtain ⟨m, rfl⟩ := Int.eq_ofNat_of_zero_le (show 0 ≤ w by omega)
    simp only [decide_eq_true hw, if_true, Int.toNat_natCast]
    rw [w64 (x := 8 * (m : Int)) (by omega) (by omega), shl1 m (by omega)]
    by_cases h0 : n < 0
    · rw [if_neg (by omega)]
      simp only [if_pos h0]
      exact Evl.now fun _ => rfl
    · simp only [if_neg h0, if_pos (show (0 : Int) ≤ 8 * (m : Int) by omega)]
      by_cases h1 : n ≥ p m
      · rw [if_neg (by omega)]
        simp only [if_pos h1]
        exact Evl.now fun _ => rfl
      · rw [if_pos (by omega)]
        simp only [if_neg h1]
        exact Evl.bind (put_evl n (by omega)) (Evl.now fun _ => rfl)
  · rw [if_neg (by omega)]
    simp only [decide_eq_false hw]
    exact Evl.now fun _ => rfl
theorem rplain_loop (n : Int) : ∀ (m : Nat) (pre : List Int), m ≤ 8 → pre.length + m ≤ 8 →
    Evl (fun k => drumlineref1_Plain.l0 k n pre ((m : Int) - 1)) (pre ++ enc n m, true)
  | 0, pre, h, h2 => by
    refine Evl.stop fun k => ?_
    rw [drumlineref1_Plain.l0, if_neg (by omega)]
    simp [enc]
  | m + 1, pre, h, h2 => by
    have ih := rplain_loop n m (pre ++ [n / p m % 256]) (by omega) (by simp; omega)
    rw [show pre ++ [n / p m % 256] ++ enc n m = pre ++ enc n (m + 1) by simp [enc]] at ih
    refine Evl.step (fun k => ?_) ih
    rw [drumlineref1_Plain.l0, if_pos (by omega), show ((m + 1 : Nat) : Int) - 1 = (m : Int) by omega, w64 (x := 8 * (m : Int)) (by omega) (by omega), wu64 (by omega) (by omega), if_pos (by omega), if_pos (by omega), shrp n (by omega), w64 (by omega) (by omega)]
theorem rplain_evl (n w : Int) : Evl (fun k => drumlineref1_Plain.f k n w) (plainR n w) := by
  have stop : Evl (fun k => drumlineref1_Plain.j0 k n w true) ([], false) := Evl.stop fun k => by rw [drumlineref1_Plain.j0, if_pos rfl]
  unfold drumlineref1_Plain.f plainR
  by_cases hw : 1 ≤ w ∧ w ≤ 7
  · obtain ⟨m, rfl⟩ := Int.eq_ofNat_of_zero_le (show 0 ≤ w by omega)
    simp only [if_neg (show ¬ (m : Int) < 1 by omega), if_neg (show ¬ (m : Int) > 7 by omega), Int.toNat_natCast]
    rw [w64 (x := 8 * (m : Int)) (by omega) (by omega), wu64 (x := 8 * (m : Int)) (by omega) (by omega), shl1 m (by omega)]
    by_cases h0 : n < 0
    · rw [if_neg (by omega)]
      simp only [if_pos h0]
      exact stop
    · simp only [if_neg h0, if_pos (show (0 : Int) ≤ 8 * (m : Int) by omega)]
      by_cases h1 : n ≥ p m
      · rw [if_neg (by omega)]
        simp only [decide_eq_true h1]
        exact stop
      · rw [if_pos (by omega)]
        simp only [decide_eq_false h1]
        have := rplain_loop n m [] (by omega) (by simp; omega)
        refine Evl.step (fun k => ?_) this
        rw [drumlineref1_Plain.j0, if_neg (by simp), w64 (by omega) (by omega)]
  · rw [if_neg (by omega)]
    by_cases h1 : w < 1
    · simp only [if_pos h1]; exact stop
    · simp only [if_neg h1, if_pos (show w > 7 by omega)]; exact stop
theorem rd_at {l : List Int} {i : Nat} (h : i < l.length) : rd l (i : Int) = l[i] := by
  unfold rd; simp [h]
/-- num of a beginning. -/
theorem num_take {l : List Int} (hb : Bys l) {i : Nat} (h : i < l.length) : num (l.take (i + 1)) = num (l.take i) * 256 + l[i] ∧ 0 ≤ num (l.take i) ∧ num (l.take i) < p i := by
  have e : ∀ (a : List Int) (c : Int), num (a ++ [c]) = num a * 256 + c := by
    intro a c
    induction a with
    | nil => simp [num, p]
    | cons x a ih =>
      simp only [List.cons_append, num, ih, List.length_append, List.length_singleton, p]
      rw [Int.add_mul, Int.mul_comm 256 (p _), ← Int.mul_assoc]
      omega
  rw [List.take_succ_eq_append_getElem h, e]
  have hi := num_in (l := l.take i) (fun x hx => hb x (List.mem_of_mem_take hx))
  rw [List.length_take, Nat.min_eq_left (by omega)] at hi
  exact ⟨rfl, hi⟩
theorem num_loop {l : List Int} (hb : Bys l) (h7 : l.length ≤ 7) : ∀ (m i : Nat), i + m = l.length →
    Evl (fun k => wire_Number.l0 k (num (l.take i)) l (l.length : Int) (i : Int)) (num l)
  | 0, i, h => by
    refine Evl.stop fun k => ?_
    rw [wire_Number.l0, if_neg (by omega), List.take_of_length_le (by omega)]
  | m + 1, i, h => by
    have ih := num_loop hb h7 m (i + 1) (by omega)
    refine Evl.step (fun k => ?_) ih
    obtain ⟨e, e0, e1⟩ := num_take hb (show i < l.length by omega)
    have hp := p_le (show i ≤ 6 by omega)
    have h6 : p 6 = 281474976710656 := by decide
    have hc := hb l[i] (List.getElem_mem _)
    rw [wire_Number.l0, if_pos (by omega), if_pos (by omega), if_pos (by omega), rd_at (show i < l.length by omega), orc e0 (by omega) hc.1 hc.2, w64 (by omega) (by omega), ← e]
    rfl
/-- Number's answer. -/
def numR (l : List Int) : Int := if 1 ≤ l.length ∧ l.length ≤ 7 then num l else 0
theorem num_evl {l : List Int} (hb : Bys l) : Evl (fun k => wire_Number.f k l) (numR l) := by
  unfold wire_Number.f numR
  rw [right_is]
  simp only [Option.bind_some]
  by_cases h : 1 ≤ l.length ∧ l.length ≤ 7
  · rw [if_pos h]
    simp only [decide_eq_true (show (1 : Int) ≤ (l.length : Int) ∧ (l.length : Int) ≤ 7 by omega), if_true]
    exact num_loop hb h.2 l.length 0 (by omega)
  · rw [if_neg h]
    simp only [decide_eq_false (show ¬ ((1 : Int) ≤ (l.length : Int) ∧ (l.length : Int) ≤ 7) by omega)]
    exact Evl.now fun _ => rfl
theorem rnum_loop {l : List Int} (hb : Bys l) (h7 : l.length ≤ 7) : ∀ (m i : Nat), i + m = l.length →
    Evl (fun k => drumlineref1_Number.l0 k l (num (l.take i)) (i : Int)) (num l)
  | 0, i, h => by
    refine Evl.stop fun k => ?_
    rw [drumlineref1_Number.l0, if_neg (by omega), List.take_of_length_le (by omega)]
  | m + 1, i, h => by
    have ih := rnum_loop hb h7 m (i + 1) (by omega)
    refine Evl.step (fun k => ?_) ih
    obtain ⟨e, e0, e1⟩ := num_take hb (show i < l.length by omega)
    have hp := p_le (show i ≤ 6 by omega)
    have h6 : p 6 = 281474976710656 := by decide
    have hc := hb l[i] (List.getElem_mem _)
    rw [drumlineref1_Number.l0, if_pos (by omega), if_pos (by omega), rd_at (show i < l.length by omega), orc e0 (by omega) hc.1 hc.2, w64 (by omega) (by omega), ← e]
    rfl
theorem rnum_evl {l : List Int} (hb : Bys l) : Evl (fun k => drumlineref1_Number.f k l) (numR l) := by
  unfold drumlineref1_Number.f numR
  by_cases h : l.length ≤ 7
  · simp only [if_neg (show ¬ (l.length : Int) > 7 by omega)]
    by_cases h0 : 1 ≤ l.length
    · rw [if_pos ⟨h0, h⟩]
      exact rnum_loop hb h l.length 0 (by omega)
    · rw [if_neg (by omega)]
      obtain rfl : l = [] := List.length_eq_zero_iff.1 (by omega)
      exact rnum_loop hb h 0 0 (by simp)
  · rw [if_neg (by omega)]
    simp only [if_pos (show (l.length : Int) > 7 by omega)]
    exact Evl.now fun _ => rfl
/-- Half of what w bytes hold. -/
def hf : Nat → Int
  | 0 => 0
  | m + 1 => 128 * p m
/-- Signed's answer. -/
def signedR (n w : Int) : List Int × Bool := if 1 ≤ w ∧ w ≤ 7 ∧ -(hf w.toNat) ≤ n ∧ n < hf w.toNat then (enc n w.toNat, true) else ([], false)
theorem hf_le : ∀ m : Nat, m ≤ 6 → 128 * p m ≤ 36028797018963968 := by decide +kernel
theorem signed_evl (n w : Int) (n0 : -9223372036854775808 ≤ n) (n1 : n ≤ 9223372036854775807) : Evl (fun k => wire_Signed.f k n w) (signedR n w) := by
  unfold wire_Signed.f signedR
  rw [right_is]
  simp only [Option.bind_some]
  by_cases hw : 1 ≤ w ∧ w ≤ 7
  · obtain ⟨m, rfl⟩ : ∃ m : Nat, w = (m : Int) + 1 := ⟨(w - 1).toNat, by omega⟩
    have hh := hf_le m (by omega)
    have hp := p_pos m
    rw [show ((m : Int) + 1).toNat = m + 1 by omega, show hf (m + 1) = 128 * p m from rfl, w64 (x := 8 * ((m : Int) + 1)) (by omega) (by omega), w64 (x := 8 * ((m : Int) + 1) - 1) (by omega) (by omega), shl1h m (by omega), w64 (x := -(128 * p m)) (by omega) (by omega)]
    simp only [decide_eq_true hw, if_true, if_pos (show (0 : Int) ≤ 8 * ((m : Int) + 1) - 1 by omega)]
    by_cases h0 : n < -(128 * p m)
    · rw [if_neg (by omega)]
      simp only [if_pos h0]
      exact Evl.now fun _ => rfl
    · simp only [if_neg h0]
      by_cases h1 : n ≥ 128 * p m
      · rw [if_neg (by omega)]
        simp only [if_pos h1]
        exact Evl.now fun _ => rfl
      · rw [if_pos (by omega)]
        simp only [if_neg h1]
        exact Evl.bind (put_evl n (w := m + 1) (by omega)) (Evl.now fun _ => rfl)
  · rw [if_neg (by omega)]
    simp only [decide_eq_false hw]
    exact Evl.now fun _ => rfl
theorem rsigned_evl (n w : Int) : Evl (fun k => drumlineref1_Signed.f k n w) (signedR n w) := by
  have stop : Evl (fun k => drumlineref1_Signed.j0 k n w true) ([], false) := Evl.stop fun k => by rw [drumlineref1_Signed.j0, if_pos rfl]
  unfold drumlineref1_Signed.f signedR
  by_cases hw : 1 ≤ w ∧ w ≤ 7
  · obtain ⟨m, rfl⟩ : ∃ m : Nat, w = (m : Int) + 1 := ⟨(w - 1).toNat, by omega⟩
    have hh := hf_le m (by omega)
    have hp := p_pos m
    have s1 : shl .i64 1 (8 * ((m : Int) + 1)) = p (m + 1) := shl1 (m + 1) (by omega)
    simp only [if_neg (show ¬ (m : Int) + 1 < 1 by omega), if_neg (show ¬ (m : Int) + 1 > 7 by omega)]
    rw [show ((m : Int) + 1).toNat = m + 1 by omega, show hf (m + 1) = 128 * p m from rfl, w64 (x := 8 * ((m : Int) + 1)) (by omega) (by omega), w64 (x := 8 * ((m : Int) + 1) - 1) (by omega) (by omega), wu64 (x := 8 * ((m : Int) + 1) - 1) (by omega) (by omega), shl1h m (by omega), w64 (x := -(128 * p m)) (by omega) (by omega)]
    simp only [if_pos (show (0 : Int) ≤ 8 * ((m : Int) + 1) - 1 by omega)]
    by_cases h0 : n < -(128 * p m)
    · rw [if_neg (by omega)]
      simp only [if_pos h0]
      exact stop
    · simp only [if_neg h0]
      by_cases h1 : n ≥ 128 * p m
      · rw [if_neg (by omega)]
        simp only [decide_eq_true h1]
        exact stop
      · rw [if_pos (by omega)]
        simp only [decide_eq_false h1]
        have e2 : p (m + 1) = 256 * p m := rfl
        refine Evl.succ ?_
        simp only [drumlineref1_Signed.j0, Bool.false_eq_true, if_false]
        rw [w64 (x := 8 * ((m : Int) + 1)) (by omega) (by omega), wu64 (x := 8 * ((m : Int) + 1)) (by omega) (by omega), s1]
        by_cases hn : n < 0
        · simp only [if_pos hn, if_pos (show (0 : Int) ≤ 8 * ((m : Int) + 1) by omega)]
          rw [w64 (x := n + p (m + 1)) (by omega) (by omega)]
          have hr : plainR (n + p (m + 1)) ((m : Int) + 1) = (enc n (m + 1), true) := by
            have := enc_add n 1 (m + 1)
            rw [Int.one_mul] at this
            rw [plainR, show ((m : Int) + 1).toNat = m + 1 by omega, if_pos (by omega), this]
          exact Evl.bind (hr ▸ rplain_evl _ _) (Evl.now fun _ => rfl)
        · simp only [if_neg hn]
          have hr : plainR n ((m : Int) + 1) = (enc n (m + 1), true) := by
            rw [plainR, show ((m : Int) + 1).toNat = m + 1 by omega, if_pos (by omega)]
          exact Evl.bind (hr ▸ rplain_evl _ _) (Evl.now fun _ => rfl)
  · rw [if_neg (by omega)]
    by_cases h1 : w < 1
    · simp only [if_pos h1]; exact stop
    · simp only [if_neg h1, if_pos (show w > 7 by omega)]; exact stop
/-- Offset's answer. -/
def offR (l : List Int) : Int := if 1 ≤ l.length ∧ l.length ≤ 7 then (if num l ≥ hf l.length then num l - p l.length else num l) else 0
theorem p_le7 : ∀ m : Nat, m ≤ 7 → p m ≤ 72057594037927936 := by decide +kernel
theorem off_evl {l : List Int} (hb : Bys l) : Evl (fun k => wire_Offset.f k l) (offR l) := by
  unfold wire_Offset.f
  refine Evl.bind (num_evl hb) ?_
  unfold numR offR
  by_cases h : 1 ≤ l.length ∧ l.length ≤ 7
  · obtain ⟨m, hm⟩ : ∃ m, l.length = m + 1 := ⟨l.length - 1, by omega⟩
    have hi := num_in hb
    have hp := p_le7 l.length h.2
    rw [if_pos h, if_pos h]
    rw [w64 (x := 8 * (l.length : Int)) (by omega) (by omega), w64 (x := 8 * (l.length : Int) - 1) (by omega) (by omega), shl1 l.length h.2, show 8 * (l.length : Int) - 1 = 8 * ((m : Int) + 1) - 1 by omega, shl1h m (by omega), show hf l.length = 128 * p m by rw [hm]; rfl, w64 (x := num l - p l.length) (by omega) (by omega)]
    simp only [if_pos (show (l.length : Int) > 0 by omega), if_pos (show (l.length : Int) ≤ 7 by omega), if_pos (show (0 : Int) ≤ 8 * ((m : Int) + 1) - 1 by omega), if_pos (show (0 : Int) ≤ 8 * (l.length : Int) by omega)]
    by_cases h2 : num l ≥ 128 * p m
    · simp only [if_pos h2]; exact Evl.now fun _ => rfl
    · simp only [if_neg h2]; exact Evl.now fun _ => rfl
  · rw [if_neg h, if_neg h]
    by_cases h0 : (l.length : Int) > 0
    · simp only [if_pos h0, if_neg (show ¬ (l.length : Int) ≤ 7 by omega)]; exact Evl.now fun _ => rfl
    · simp only [if_neg h0]; exact Evl.now fun _ => rfl
theorem roff_evl {l : List Int} (hb : Bys l) : Evl (fun k => drumlineref1_Offset.f k l) (offR l) := by
  have stop : Evl (fun k => drumlineref1_Offset.j0 k l true) 0 := Evl.stop fun k => by rw [drumlineref1_Offset.j0, if_pos rfl]
  unfold drumlineref1_Offset.f
  by_cases h : 1 ≤ l.length ∧ l.length ≤ 7
  · have hi := num_in hb
    have hp := p_le7 l.length h.2
    simp only [if_neg (show ¬ (l.length : Int) = 0 by omega), decide_eq_false (show ¬ (l.length : Int) > 7 by omega)]
    refine Evl.succ ?_
    simp only [drumlineref1_Offset.j0, Bool.false_eq_true, if_false]
    refine Evl.bind (rnum_evl hb) ?_
    unfold numR offR
    rw [if_pos h, if_pos h]
    rw [w64 (x := 8 * (l.length : Int)) (by omega) (by omega), wu64 (x := 8 * (l.length : Int)) (by omega) (by omega), shl1 l.length h.2, w64 (x := num l - p l.length) (by omega) (by omega)]
    simp only [if_pos (show (0 : Int) < (l.length : Int) by omega), if_pos (show (0 : Int) ≤ 8 * (l.length : Int) by omega)]
    cases l with
    | nil => simp at h
    | cons c t =>
      have ht := num_in (l := t) (fun x hx => hb x (by simp [hx]))
      have hc := hb c (by simp)
      have hpt := p_pos t.length
      have e : rd (c :: t) 0 = c := rfl
      rw [e]
      have k1 : num (c :: t) = c * p t.length + num t := rfl
      have k2 : hf (c :: t).length = 128 * p t.length := rfl
      by_cases h2 : c ≥ 128
      · have : 128 * p t.length ≤ c * p t.length := Int.mul_le_mul_of_nonneg_right h2 (by omega)
        rw [if_pos (show num (c :: t) ≥ hf (c :: t).length by omega)]
        simp only [if_pos h2]
        exact Evl.now fun _ => rfl
      · have : c * p t.length ≤ 127 * p t.length := Int.mul_le_mul_of_nonneg_right (by omega) (by omega)
        rw [if_neg (show ¬ num (c :: t) ≥ hf (c :: t).length by omega)]
        simp only [if_neg h2]
        exact Evl.now fun _ => rfl
  · rw [offR, if_neg h]
    by_cases h0 : (l.length : Int) = 0
    · simp only [if_pos h0]; exact stop
    · simp only [if_neg h0, decide_eq_true (show (l.length : Int) > 7 by omega)]; exact stop
end Go.Proofs.Ythkagdbabkkomaa.Wire
