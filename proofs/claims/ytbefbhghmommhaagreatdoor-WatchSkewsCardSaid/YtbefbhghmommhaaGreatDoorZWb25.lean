/- Texts of this claim, laid together by a program (wip/g/merge3.py): PuSw. -/
import Derived.Test.YtbefbhghmommhaaGreatDoorZWb21
import Derived.Test.YtbefbhghmommhaaGreatDoorZWb24
import Derived.Test.YtbefbhghmommhaaGreatDoorZWb14
import Derived.Test.YtbefbhghmommhaaGreatDoorZWb9
import Derived.Test.YtbefbhghmommhaaGreatDoorZWb18
set_option linter.unusedVariables false
set_option linter.unusedSimpArgs false
set_option maxRecDepth 100000
namespace Go.Proofs.YtbefbhghmommhaaGreatDoor.MWo
open Go.RowKit Go.Proofs.YtbefbhghmommhaaGreatDoorW.PrintWords Go.Proofs.YtbefbhghmommhaaGreatDoorW.PrintLast Go.Proofs.YtbefbhghmommhaaGreatDoorW.PrintMore Go.Proofs.YtbefbhghmommhaaGreatDoor.Evl
section
variable {P : List S68} {L : List S71} {a2 a3 a4 a5 a6 a7 a8 a9 a10 a11 a12 g : Int}
def AgeOk (n : Nat) (g : Int) (l : List Int) : Prop := l.length = n ∧ ∀ x ∈ l, 0 ≤ x ∧ x ≤ g
theorem whole_loop (hg : dr5_Gone.f P L a2 a3 a4 a5 a6 a7 a8 a9 a10 a11 a12 = some g) (h1 : 1 ≤ g) (hP : P.length ≤ 6) (l : List Int) : ∀ (d i k : Nat) (o : List Int), i + d = P.length → o.length = i → d < k → (∀ x ∈ o, 0 ≤ x ∧ x ≤ g) → ∃ r, dl19_whole.l0 k l o (i : Int) P L a2 a3 a4 a5 a6 a7 a8 a9 a10 a11 a12 = some r ∧ AgeOk P.length g r
 | 0, i, k + 1, o, h, ho, hk, hx => by
  refine ⟨o, ?_, by omega, hx⟩
  simp only [dl19_whole.l0]
  rw [if_neg (by omega)]
 | d + 1, i, k + 1, o, h, ho, hk, hx => by
  simp only [dl19_whole.l0]
  rw [if_pos (show (i : Int) < (P.length : Int) by omega), show wrap64 ((i : Int) + 1) = ((i + 1 : Nat) : Int) by unfold wrap64; omega]
  have ih := fun v (hv : 0 ≤ v ∧ v ≤ g) => whole_loop hg h1 hP l d (i + 1) k (o ++ [v]) (by omega) (by simp; omega) (by omega) (fun x hm => by rcases List.mem_append.1 hm with hm | hm; exact hx x hm; rw [List.mem_singleton.1 hm]; exact hv)
  by_cases e : (i : Int) < (l.length : Int)
  ·rw [if_pos e, if_pos (by omega), hg]
   simp only [Option.bind_some]
   rw [if_pos (by omega)]
   exact ih _ (by unfold mn mx; split <;> split <;> omega)
  ·rw [if_neg e, if_pos (by omega)]
   exact ih 1 ⟨by omega, h1⟩
theorem whole_ok (hg : dr5_Gone.f P L a2 a3 a4 a5 a6 a7 a8 a9 a10 a11 a12 = some g) (h1 : 1 ≤ g) (hP : P.length ≤ 6) (l : List Int) : ∃ r, dl19_whole.f 100 P L a2 a3 a4 a5 a6 a7 a8 a9 a10 a11 a12 l = some r ∧ AgeOk P.length g r :=
 whole_loop hg h1 hP l P.length 0 100 [] (by omega) rfl (by omega) (fun _ h => by cases h)
theorem ages_loop (hg : dr5_Gone.f P L a2 a3 a4 a5 a6 a7 a8 a9 a10 a11 a12 = some g) (l : List Int) (hl : l.length ≤ 6) (hx : ∀ x ∈ l, 0 ≤ x ∧ x ≤ g) : ∀ (d i k : Nat), i + d = l.length → d < k → dr17_ages.l0 k l (i : Int) P L a2 a3 a4 a5 a6 a7 a8 a9 a10 a11 a12 = some true
 | 0, i, k + 1, h, hk => by
  simp only [dr17_ages.l0]
  rw [if_neg (by omega)]
 | d + 1, i, k + 1, h, hk => by
  simp only [dr17_ages.l0]
  have hi : i < l.length := by omega
  have hm := hx l[i] (List.getElem_mem hi)
  rw [if_pos (show (i : Int) < (l.length : Int) by omega), if_pos (by omega), rd_i hi, if_neg (by omega), hg]
  simp only [Option.bind_some]
  rw [if_neg (by omega), show wrap64 ((i : Int) + 1) = ((i + 1 : Nat) : Int) by unfold wrap64; omega]
  exact ages_loop hg l hl hx d (i + 1) k (by omega) (by omega)
theorem ages_ok (hg : dr5_Gone.f P L a2 a3 a4 a5 a6 a7 a8 a9 a10 a11 a12 = some g) (hP : P.length ≤ 6) {l : List Int} (h : AgeOk P.length g l) : dr17_ages.f 100 P L a2 a3 a4 a5 a6 a7 a8 a9 a10 a11 a12 l true = some true := by
 unfold dr17_ages.f
 rw [if_pos rfl, if_pos (by rw [h.1])]
 exact ages_loop hg l (by have := h.1; omega) h.2 l.length 0 100 (by omega) (by have := h.1; omega)
theorem ages_off : dr17_ages.f 100 P L a2 a3 a4 a5 a6 a7 a8 a9 a10 a11 a12 [] false = some true := by unfold dr17_ages.f; rw [if_neg (by decide)]; rfl
structure NodeOk (n : Nat) (g dr : Int) (z : S55) : Prop where
 s : 0 ≤ z.f0 ∧ z.f0 ≤ 2
 w : 0 ≤ z.f1 ∧ z.f1 ≤ 31
 d : -dr ≤ z.f2 ∧ z.f2 ≤ dr
 t : -2147483648 < z.f3 ∧ z.f3 < 2147483648
 c : 0 ≤ z.f4 ∧ z.f4 ≤ 274877906943
 m : 0 ≤ z.f6 ∧ z.f6 ≤ 4095
 b : 0 ≤ z.f7 ∧ z.f7 ≤ 1023
 on : z.f0 = 2 → AgeOk n g z.f5
 off : z.f0 ≠ 2 → z.f5 = []
theorem and3 (n : Int) : Go.bits .and .i64 n 3 = n % 4 := by
 unfold Go.bits
 have e : ((BitVec.ofInt 64 n &&& BitVec.ofInt 64 3).toNat : Int) = n % 4 := by
  rw [BitVec.toNat_and, BitVec.toNat_ofInt, show (BitVec.ofInt 64 3).toNat = 2 ^ 2 - 1 by decide, Nat.and_two_pow_sub_one_eq_mod]
  omega
 show IntKind.i64.wrap ((BitVec.ofInt 64 n &&& BitVec.ofInt 64 3).toNat : Int) = n % 4
 rw [e, IntKind.wrap_i64]
 omega
theorem and31 (n : Int) : Go.bits .and .i64 n 31 = n % 32 := by
 unfold Go.bits
 have e : ((BitVec.ofInt 64 n &&& BitVec.ofInt 64 31).toNat : Int) = n % 32 := by
  rw [BitVec.toNat_and, BitVec.toNat_ofInt, show (BitVec.ofInt 64 31).toNat = 2 ^ 5 - 1 by decide, Nat.and_two_pow_sub_one_eq_mod]
  omega
 show IntKind.i64.wrap ((BitVec.ofInt 64 n &&& BitVec.ofInt 64 31).toNat : Int) = n % 32
 rw [e, IntKind.wrap_i64]
 omega
theorem and4095 (n : Int) : Go.bits .and .i64 n 4095 = n % 4096 := by
 unfold Go.bits
 have e : ((BitVec.ofInt 64 n &&& BitVec.ofInt 64 4095).toNat : Int) = n % 4096 := by
  rw [BitVec.toNat_and, BitVec.toNat_ofInt, show (BitVec.ofInt 64 4095).toNat = 2 ^ 12 - 1 by decide, Nat.and_two_pow_sub_one_eq_mod]
  omega
 show IntKind.i64.wrap ((BitVec.ofInt 64 n &&& BitVec.ofInt 64 4095).toNat : Int) = n % 4096
 rw [e, IntKind.wrap_i64]
 omega
theorem and1023 (n : Int) : Go.bits .and .i64 n 1023 = n % 1024 := by
 unfold Go.bits
 have e : ((BitVec.ofInt 64 n &&& BitVec.ofInt 64 1023).toNat : Int) = n % 1024 := by
  rw [BitVec.toNat_and, BitVec.toNat_ofInt, show (BitVec.ofInt 64 1023).toNat = 2 ^ 10 - 1 by decide, Nat.and_two_pow_sub_one_eq_mod]
  omega
 show IntKind.i64.wrap ((BitVec.ofInt 64 n &&& BitVec.ofInt 64 1023).toNat : Int) = n % 1024
 rw [e, IntKind.wrap_i64]
 omega
theorem and38 (n : Int) : Go.bits .and .i64 n 274877906943 = n % 274877906944 := by
 unfold Go.bits
 have e : ((BitVec.ofInt 64 n &&& BitVec.ofInt 64 274877906943).toNat : Int) = n % 274877906944 := by
  rw [BitVec.toNat_and, BitVec.toNat_ofInt, show (BitVec.ofInt 64 274877906943).toNat = 2 ^ 38 - 1 by decide, Nat.and_two_pow_sub_one_eq_mod]
  omega
 show IntKind.i64.wrap ((BitVec.ofInt 64 n &&& BitVec.ofInt 64 274877906943).toNat : Int) = n % 274877906944
 rw [e, IntKind.wrap_i64]
 omega
theorem tmod_bd (x : Int) {m : Int} (hm : 0 < m) : -m < x.tmod m ∧ x.tmod m < m := by
 have h1 := Int.tmod_lt_of_pos x hm
 have h2 := Int.tmod_lt_of_pos (-x) hm
 rw [Int.neg_tmod] at h2
 omega
theorem held_ok (hg : dr5_Gone.f P L a2 a3 a4 a5 a6 a7 a8 a9 a10 a11 a12 = some g) (h1 : 1 ≤ g) (hP : P.length ≤ 6) (hd : 0 ≤ a6 ∧ a6 ≤ 1000) (y : S55) : ∃ z : S55, dl19_held.f 100 P L a2 a3 a4 a5 a6 a7 a8 a9 a10 a11 a12 y.f0 y.f1 y.f2 y.f3 y.f4 y.f5 y.f6 y.f7 = some (z.f0, z.f1, z.f2, z.f3, z.f4, z.f5, z.f6, z.f7) ∧ NodeOk P.length g a6 z := by
 unfold dl19_held.f
 have e6 : wrap64 (a6 + 1) = a6 + 1 := by unfold wrap64; omega
 rw [e6, if_neg (by omega), and3, and31, and4095, and1023, and38]
 have b1 := tmod_bd y.f2 (show 0 < a6 + 1 by omega)
 have b2 := tmod_bd y.f3 (show (0 : Int) < 2147483648 by decide)
 have b3 : (y.f0 % 4).tmod 3 = y.f0 % 4 % 3 := Int.tmod_eq_emod_of_nonneg (by omega)
 rw [b3]
 by_cases e : y.f0 % 4 % 3 = 2
 ·rw [if_pos e]
  obtain ⟨r, hr, hok⟩ := whole_ok hg h1 hP y.f5
  rw [hr]
  exact ⟨⟨y.f0 % 4 % 3, y.f1 % 32, y.f2.tmod (a6 + 1), y.f3.tmod 2147483648, y.f4 % 274877906944, r, y.f6 % 4096, y.f7 % 1024⟩, rfl, by dsimp only; omega, by dsimp only; omega, ⟨by show -a6 ≤ y.f2.tmod (a6 + 1); omega, by show y.f2.tmod (a6 + 1) ≤ a6; omega⟩, b2, by dsimp only; omega, by dsimp only; omega, by dsimp only; omega, fun _ => hok, fun h => absurd e h⟩
 ·rw [if_neg e]
  exact ⟨⟨y.f0 % 4 % 3, y.f1 % 32, y.f2.tmod (a6 + 1), y.f3.tmod 2147483648, y.f4 % 274877906944, [], y.f6 % 4096, y.f7 % 1024⟩, rfl, by dsimp only; omega, by dsimp only; omega, ⟨by show -a6 ≤ y.f2.tmod (a6 + 1); omega, by show y.f2.tmod (a6 + 1) ≤ a6; omega⟩, b2, by dsimp only; omega, by dsimp only; omega, by dsimp only; omega, fun h => absurd h e, fun _ => rfl⟩
theorem time_ok {x : Int} (h : -2147483648 < x ∧ x < 2147483648) : dr1_Time.f x = some true := by
 unfold dr1_Time.f
 rw [if_pos (by omega)]
 exact congrArg some (decide_eq_true (by omega))
theorem node_right (hg : dr5_Gone.f P L a2 a3 a4 a5 a6 a7 a8 a9 a10 a11 a12 = some g) (hP : P.length ≤ 6) (hd : 0 ≤ a6 ∧ a6 ≤ 1000) {z : S55} (h : NodeOk P.length g a6 z) : dr17_right.f 100 P L a2 a3 a4 a5 a6 a7 a8 a9 a10 a11 a12 z.f0 z.f1 z.f2 z.f3 z.f4 z.f5 z.f6 z.f7 = some true := by
 obtain ⟨h1, h2, h3, h4, h5, h6, h7, h8, h9⟩ := h
 unfold dr17_right.f
 rw [show wrap64 (-a6) = -a6 by unfold wrap64; omega, if_neg (by omega), if_neg (by omega), if_neg (by omega), if_neg (by omega), time_ok h4]
 simp only [Option.bind_some]
 rw [if_pos trivial, if_neg (by omega), if_neg (by omega), if_pos (by omega), if_pos (by omega), if_pos (by omega), if_pos (by omega), if_pos (by omega), if_pos (by omega)]
 by_cases e : z.f0 = 2
 ·rw [show (z.f0 == 2) = true by simp [e], ages_ok hg hP (h8 e)]; rfl
 ·rw [show (z.f0 == 2) = false by simp [e], h9 e, ages_off]; rfl
end
structure MadeIs (q s : Nat) (cyc dr ag lo li sp : Int) : Prop where
 hq : 1 ≤ q ∧ q ≤ 4
 hs : s ≤ 3
 hc : 20000 ≤ cyc ∧ cyc ≤ 27000
 hd : 0 ≤ dr ∧ dr ≤ 140
 hlo : lo = 0 ∨ lo = 1
 hag : ((q : Int) - 1) * (lo + 1) + 1 ≤ ag ∧ ag ≤ 12
 hli : (q : Int) * (lo + 1) + 2 ≤ li ∧ li ≤ 12
 hsp : (q : Int) * (lo + 1) + 2 ≤ sp ∧ sp ≤ 12
theorem made_is (n : Int) : ∃ (q s : Nat) (cyc dr ag lo li sp : Int), MadeIs q s cyc dr ag lo li sp ∧ dr26_Made.f n = some ((madeNet q s).1, (madeNet q s).2, cyc, 60, 100, 3 * Eg dr cyc, dr, 300000, ag, lo, li, sp, 12) := by
 have hk : 0 ≤ (((1 + n % 65536 % 4).toNat : Int) - 1) * (n % 65536 / 1024 % 2 + 1) ∧ (((1 + n % 65536 % 4).toNat : Int) - 1) * (n % 65536 / 1024 % 2 + 1) ≤ 6 := by
  rcases (show n % 65536 / 1024 % 2 = 0 ∨ n % 65536 / 1024 % 2 = 1 by omega) with h | h <;> rw [h] <;> omega
 have hk2 : 0 ≤ ((1 + n % 65536 % 4).toNat : Int) * (n % 65536 / 1024 % 2 + 1) ∧ ((1 + n % 65536 % 4).toNat : Int) * (n % 65536 / 1024 % 2 + 1) ≤ 8 := by
  rcases (show n % 65536 / 1024 % 2 = 0 ∨ n % 65536 / 1024 % 2 = 1 by omega) with h | h <;> rw [h] <;> omega
 refine ⟨(1 + n % 65536 % 4).toNat, (n % 65536 / 4 % 4).toNat, 20000 + 1000 * (n % 65536 / 16 % 8), 20 * (n % 65536 / 128 % 8), (((1 + n % 65536 % 4).toNat : Int) - 1) * (n % 65536 / 1024 % 2 + 1) + 1 + n % 65536 / 2048 % 4, n % 65536 / 1024 % 2, ((1 + n % 65536 % 4).toNat : Int) * (n % 65536 / 1024 % 2 + 1) + 2 + n % 65536 / 8192 % 2, ((1 + n % 65536 % 4).toNat : Int) * (n % 65536 / 1024 % 2 + 1) + 2, ⟨by omega, by omega, by omega, by omega, by omega, by omega, by omega, by omega⟩, ?_⟩
 unfold dr26_Made.f
 rw [Edge_eq _ _ (by omega) (by omega) (by omega) (by omega) (by omega) (by omega) (by omega) (by omega) (by omega) (by omega) (by omega) (by omega) (by omega)]
 simp only [Option.bind_some]
 have := Eg_bd (dr := 20 * (n % 65536 / 128 % 8)) (cyc := 20000 + 1000 * (n % 65536 / 16 % 8)) (by omega) (by omega) (by omega) (by omega)
 rw [if_pos (by omega)]
theorem len_made (q s : Nat) (h1 : 1 ≤ q) (h4 : q ≤ 4) (h3 : s ≤ 3) : (madeNet q s).1.length = q ∧ (madeNet q s).2.length ≤ 10 ∧ netB (madeNet q s).1 (madeNet q s).2 = true := by
 refine made_cases (X := fun q s => (madeNet q s).1.length = q ∧ (madeNet q s).2.length ≤ 10 ∧ netB (madeNet q s).1 (madeNet q s).2 = true) ⟨?_, ?_, ?_, ?_, ?_, ?_, ?_, ?_, ?_, ?_, ?_, ?_, ?_, ?_, ?_, ?_⟩ q s h1 h4 h3 <;> exact ⟨by kernel_rfl, Nat.le_of_ble_eq_true (by kernel_rfl), by kernel_rfl⟩
theorem ports_made (a2 a3 a4 a5 a6 a7 a8 a9 a10 a11 a12 : Int) (q s : Nat) (h1 : 1 ≤ q) (h4 : q ≤ 4) (h3 : s ≤ 3) : ((List.range (madeNet q s).1.length).all fun i => match dr5_ports.f 100 (madeNet q s).1 (madeNet q s).2 a2 a3 a4 a5 a6 a7 a8 a9 a10 a11 a12 (i : Int) with | some p => decide (0 ≤ p ∧ p ≤ 6 ∧ 1 ≤ (rd_T68 (madeNet q s).1 (i : Int)).f0 ∧ (rd_T68 (madeNet q s).1 (i : Int)).f0 ≤ 12) | none => false) = true := by
 refine made_cases (X := fun q s => ((List.range (madeNet q s).1.length).all fun i => match dr5_ports.f 100 (madeNet q s).1 (madeNet q s).2 a2 a3 a4 a5 a6 a7 a8 a9 a10 a11 a12 (i : Int) with | some p => decide (0 ≤ p ∧ p ≤ 6 ∧ 1 ≤ (rd_T68 (madeNet q s).1 (i : Int)).f0 ∧ (rd_T68 (madeNet q s).1 (i : Int)).f0 ≤ 12) | none => false) = true) ⟨?_, ?_, ?_, ?_, ?_, ?_, ?_, ?_, ?_, ?_, ?_, ?_, ?_, ?_, ?_, ?_⟩ q s h1 h4 h3 <;> kernel_rfl
theorem jump_eq (P : List S68) (L : List S71) {a2 a3 a4 a5 a6 a7 a8 a9 a10 a11 a12 : Int} (h1 : 0 ≤ a6) (h2 : a6 ≤ 140) (h3 : 20000 ≤ a2) (h4 : a2 ≤ 27000) (h5 : 0 ≤ a8) (h6 : a8 ≤ 12) : ∃ j, dr5_jump.f P L a2 a3 a4 a5 a6 a7 a8 a9 a10 a11 a12 = some j ∧ 0 ≤ j ∧ j ≤ 2000 := by
 have hb := dc_bd h1 h2 h3 h4
 have he := Eg_bd h1 h2 h3 h4
 unfold dr5_jump.f dr5_step.f dr5_slew.f
 rw [edge_eq P L h1 h2 h3 h4, show wrap64 (a6 * a2) = a6 * a2 by unfold wrap64; omega, up_eq (by omega) (by omega)]
 simp only [Option.bind_some]
 have hu : 0 ≤ up (a6 * a2) ∧ up (a6 * a2) ≤ 4 := by unfold up; omega
 generalize up (a6 * a2) = u at *
 generalize Eg a6 a2 = e at *
 rw [show wrap64 (4 * e) = 4 * e by unfold wrap64; omega, show wrap64 (2 * u) = 2 * u by unfold wrap64; omega, show wrap64 (4 * e + 2 * u) = 4 * e + 2 * u by unfold wrap64; omega, show wrap64 (4 * e + 2 * u + 2) = 4 * e + 2 * u + 2 by unfold wrap64; omega, show wrap64 (2 * a8) = 2 * a8 by unfold wrap64; omega]
 have q1 : 0 ≤ 2 * a8 * (4 * e + 2 * u + 2) := Int.mul_nonneg (by omega) (by omega)
 have q2 : 2 * a8 * (4 * e + 2 * u + 2) ≤ 24 * (4 * e + 2 * u + 2) := Int.mul_le_mul_of_nonneg_right (by omega) (by omega)
 rw [show wrap64 (2 * a8 * (4 * e + 2 * u + 2)) = 2 * a8 * (4 * e + 2 * u + 2) by unfold wrap64; omega]
 exact ⟨_, rfl, by unfold wrap64; omega, by unfold wrap64; omega⟩
theorem gone_made {q s : Nat} {cyc dr ag lo li sp : Int} (h : MadeIs q s cyc dr ag lo li sp) : dr5_Gone.f (madeNet q s).1 (madeNet q s).2 cyc 60 100 (3 * Eg dr cyc) dr 300000 ag lo li sp 12 = some (ag + 1) ∧ 1 ≤ ag ∧ rangeOk cyc dr 300000 ag lo := by
 have hq := h.hq; have hc := h.hc; have hd := h.hd; have hl := h.hlo; have ha := h.hag
 have h1 : 1 ≤ ag := by
  have : 0 ≤ ((q : Int) - 1) * (lo + 1) := Int.mul_nonneg (by omega) (by omega)
  omega
 have hr : rangeOk cyc dr 300000 ag lo := ⟨by omega, by omega, by omega, by omega, by omega, by omega, by omega, by omega, by omega, by omega⟩
 refine ⟨?_, h1, hr⟩
 unfold dr5_Gone.f dr5_ranged.f
 rw [good_made cyc 60 100 (3 * Eg dr cyc) dr 300000 ag lo li sp 12 q s hq.1 hq.2 h.hs]
 simp only [Option.bind_some, if_true]
 rw [show dr5_out.f (madeNet q s).1 (madeNet q s).2 cyc 60 100 (3 * Eg dr cyc) dr 300000 ag lo li sp 12 = some 0 from if_pos hr]
 simp only [Option.bind_some, beq_self_eq_true, if_true]
 rw [show wrap64 (ag + 1) = ag + 1 by unfold wrap64; omega]
theorem fit_made {q s : Nat} {cyc dr ag lo li sp : Int} (h : MadeIs q s cyc dr ag lo li sp) (part : Int) (p0 : 0 ≤ part) (p1 : part < q) : dr5_Fit.f (madeNet q s).1 (madeNet q s).2 cyc 60 100 (3 * Eg dr cyc) dr 300000 ag lo li sp 12 part = some true := by
 have hq := h.hq; have hc := h.hc; have hd := h.hd; have hl := h.hlo; have ha := h.hag; have hli := h.hli; have hsp := h.hsp
 obtain ⟨l1, l2, l3⟩ := len_made q s hq.1 hq.2 h.hs
 obtain ⟨_, g1, hr⟩ := gone_made h
 have he := Eg_bd hd.1 hd.2 hc.1 hc.2
 have hG := good_made cyc 60 100 (3 * Eg dr cyc) dr 300000 ag lo li sp 12 q s hq.1 hq.2 h.hs
 unfold dr5_Good.f at hG
 unfold dr5_Fit.f
 rw [if_pos ⟨l3, p0, by rw [l1]; exact p1, hr⟩]
 split at hG
 ·obtain ⟨d, hdd, hG⟩ := Option.bind_eq_some_iff.mp hG
  split at hG
  ·rename_i hx
   rw [hdd]
   simp only [Option.bind_some]
   rw [if_pos hx, edge_eq _ _ hd.1 hd.2 hc.1 hc.2]
   simp only [Option.bind_some]
   obtain ⟨j, hj, j0, j1⟩ := jump_eq (madeNet q s).1 (madeNet q s).2 (a3 := 60) (a4 := 100) (a5 := 3 * Eg dr cyc) (a7 := 300000) (a9 := lo) (a10 := li) (a11 := sp) (a12 := 12) hd.1 hd.2 hc.1 hc.2 (show 0 ≤ ag by omega) ha.2
   rw [hj]
   simp only [Option.bind_some]
   rw [if_pos]
   unfold fitsC
   have hsq : 0 ≤ (q : Int) * sp ∧ (q : Int) * sp ≤ 48 := ⟨Int.mul_nonneg (by omega) (by
    have : 0 ≤ (q : Int) * (lo + 1) := Int.mul_nonneg (by omega) (by omega)
    omega), by
    have : (q : Int) * sp ≤ (q : Int) * 12 := Int.mul_le_mul_of_nonneg_left (by omega) (by omega)
    omega⟩
   rw [Bool.and_eq_true, decide_eq_true_eq, List.all_eq_true, l1]
   refine ⟨⟨by omega, by omega, by omega, by omega, by omega, by omega, by omega, by omega, by omega, by omega, by omega, by omega, by omega, by omega, by omega, by omega, by omega⟩, fun i hi => ?_⟩
   have hP := List.all_eq_true.1 (ports_made cyc 60 100 (3 * Eg dr cyc) dr 300000 ag lo li sp 12 q s hq.1 hq.2 h.hs) i (by rw [l1]; exact hi)
   cases hp : dr5_ports.f 100 (madeNet q s).1 (madeNet q s).2 cyc 60 100 (3 * Eg dr cyc) dr 300000 ag lo li sp 12 (i : Int) with
   | none => rw [hp] at hP; cases hP
   | some p =>
    rw [hp] at hP
    have := of_decide_eq_true hP
    refine decide_eq_true ⟨by omega, by omega, by omega, by omega, by omega⟩
  ·cases hG
 ·cases hG
theorem mdf_made {q s : Nat} {cyc dr ag lo li sp : Int} (h : MadeIs q s cyc dr ag lo li sp) (part : Int) (p0 : 0 ≤ part) (p1 : part < q) : ∃ m : Nat, MdF (madeNet q s).1 (madeNet q s).2 cyc 60 100 (3 * Eg dr cyc) dr 300000 ag lo li sp 12 part m 100 (NodeOk q (ag + 1) dr) (AgeOk q (ag + 1)) ∧ (m : Int) = (rd_T68 (madeNet q s).1 part).f0 := by
 have hq := h.hq
 obtain ⟨l1, l2, l3⟩ := len_made q s hq.1 hq.2 h.hs
 obtain ⟨hg, g1, hr⟩ := gone_made h
 obtain ⟨i, rfl⟩ := Int.eq_ofNat_of_zero_le p0
 have hP := List.all_eq_true.1 (ports_made cyc 60 100 (3 * Eg dr cyc) dr 300000 ag lo li sp 12 q s hq.1 hq.2 h.hs) i (List.mem_range.2 (by rw [l1]; omega))
 have hf := fit_made h (i : Int) p0 p1
 have hb : 1 ≤ (rd_T68 (madeNet q s).1 (i : Int)).f0 ∧ (rd_T68 (madeNet q s).1 (i : Int)).f0 ≤ 12 := by
  split at hP
  ·exact (of_decide_eq_true hP).2.2
  ·cases hP
 refine ⟨(rd_T68 (madeNet q s).1 (i : Int)).f0.toNat, ⟨?_, fun y _ => ?_, fun l _ => ?_, by omega⟩, by omega⟩
 ·unfold dr17_New.f
  rw [hf]
  simp only [Option.bind_some, if_true]
  rw [if_pos p0, if_pos (by rw [l1]; exact p1), if_pos (by omega), if_pos (by omega)]
 ·have := held_ok hg (by omega) (by rw [l1]; omega) (by have := h.hd; omega) y
  rw [l1] at this
  exact this
 ·have := whole_ok hg (by omega) (by rw [l1]; omega) l
  rw [l1] at this
  exact this
theorem skew_sym (X Y : List Int) : skewV X Y = skewV Y X := by
 unfold skewV
 by_cases h1 : (sprd X).2 = true
 ·by_cases h2 : (sprd Y).2 = true
  ·rw [if_pos ⟨h1, h2⟩, if_pos ⟨h2, h1⟩]
   have : ∀ a b : Int, mx a b = mx b a := fun a b => by unfold mx; split <;> split <;> omega
   rw [this]
  ·rw [if_neg (fun h => h2 h.2), if_neg (fun h => h2 h.1)]
 ·rw [if_neg (fun h => h1 h.1), if_neg (fun h => h1 h.2)]
theorem skew_self (X : List Int) : skewV X X = sprd X := by
 unfold skewV sprd
 by_cases h : X = [] ∨ (X.any fun x => !timeB x) = true
 ·rw [if_pos h]; rfl
 ·rw [if_neg h, if_pos ⟨rfl, rfl⟩]
  have : ∀ a : Int, mx a a = a := fun a => by unfold mx; split <;> rfl
  rw [this]
end Go.Proofs.YtbefbhghmommhaaGreatDoor.MWo
