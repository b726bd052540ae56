/- Texts of this claim, laid together by a program (wip/g/merge5.py): MWox99, MWox100, HRi, PuSw, HGn, HWw, HWd. -/
import Derived.Test.YtbefbhghmommhaaGreatDoorZWd4
import Derived.Test.YtbefbhghmommhaaGreatDoorZWd28
import Derived.Test.YtbefbhghmommhaaGreatDoorZWd8
import Derived.Test.YtbefbhghmommhaaGreatDoorZWd24
import Derived.Test.YtbefbhghmommhaaGreatDoorZWd30
import Derived.Test.YtbefbhghmommhaaGreatDoorZWd20
import Derived.Test.YtbefbhghmommhaaGreatDoorZWd11


set_option linter.unusedVariables false
set_option linter.unusedSimpArgs false
set_option maxRecDepth 100000
set_option linter.unusedVariables false
set_option linter.unusedSimpArgs false
set_option maxRecDepth 100000
namespace Go.Proofs.YtbefbhghmommhaaGreatDoor.MWo
open Go.RowKit Go.Proofs.YtbefbhghmommhaaGreatDoorW.PrintWords Go.Proofs.YtbefbhghmommhaaGreatDoorW.PrintLast Go.Proofs.YtbefbhghmommhaaGreatDoorW.PrintMore Go.Proofs.YtbefbhghmommhaaGreatDoor.Evl
section
variable {P : List S68} {L : List S71} {a2 a3 a4 a5 a6 a7 a8 a9 a10 a11 a12 g : Int}
def AgeOk (n : Nat) (g : Int) (l : List Int) : Prop := l.length = n ∧ ∀ x ∈ l, 0 ≤ x ∧ x ≤ g
theorem whole_loop (hg : dr5_Gone.f P L a2 a3 a4 a5 a6 a7 a8 a9 a10 a11 a12 = some g) (h1 : 1 ≤ g) (hP : P.length ≤ 6) (l : List Int) : ∀ (d i k : Nat) (o : List Int), i + d = P.length → o.length = i → d < k → (∀ x ∈ o, 0 ≤ x ∧ x ≤ g) → ∃ r, dl19_whole.l0 k l o (i : Int) P L a2 a3 a4 a5 a6 a7 a8 a9 a10 a11 a12 = some r ∧ AgeOk P.length g r
 | 0, i, k + 1, o, h, ho, hk, hx => by
  refine ⟨o, ?_, by omega, hx⟩
  simp only [dl19_whole.l0]
  rw [if_neg (by omega)]
 | d + 1, i, k + 1, o, h, ho, hk, hx => by
  simp only [dl19_whole.l0]
  rw [if_pos (show (i : Int) < (P.length : Int) by omega), show wrap64 ((i : Int) + 1) = ((i + 1 : Nat) : Int) by unfold wrap64; omega]
  have ih := fun v (hv : 0 ≤ v ∧ v ≤ g) => whole_loop hg h1 hP l d (i + 1) k (o ++ [v]) (by omega) (by simp; omega) (by omega) (fun x hm => by rcases List.mem_append.1 hm with hm | hm; exact hx x hm; rw [List.mem_singleton.1 hm]; exact hv)
  by_cases e : (i : Int) < (l.length : Int)
  ·rw [if_pos e, if_pos (by omega), hg]
   simp only [Option.bind_some]
   rw [if_pos (by omega)]
   exact ih _ (by unfold mn mx; split <;> split <;> omega)
  ·rw [if_neg e, if_pos (by omega)]
   exact ih 1 ⟨by omega, h1⟩
theorem whole_ok (hg : dr5_Gone.f P L a2 a3 a4 a5 a6 a7 a8 a9 a10 a11 a12 = some g) (h1 : 1 ≤ g) (hP : P.length ≤ 6) (l : List Int) : ∃ r, dl19_whole.f 100 P L a2 a3 a4 a5 a6 a7 a8 a9 a10 a11 a12 l = some r ∧ AgeOk P.length g r :=
 whole_loop hg h1 hP l P.length 0 100 [] (by omega) rfl (by omega) (fun _ h => by cases h)
structure NodeOk (n : Nat) (g dr : Int) (z : S55) : Prop where
 s : 0 ≤ z.f0 ∧ z.f0 ≤ 2
 w : 0 ≤ z.f1 ∧ z.f1 ≤ 31
 d : -dr ≤ z.f2 ∧ z.f2 ≤ dr
 t : -2147483648 < z.f3 ∧ z.f3 < 2147483648
 c : 0 ≤ z.f4 ∧ z.f4 ≤ 274877906943
 m : 0 ≤ z.f6 ∧ z.f6 ≤ 4095
 b : 0 ≤ z.f7 ∧ z.f7 ≤ 1023
 on : z.f0 = 2 → AgeOk n g z.f5
 off : z.f0 ≠ 2 → z.f5 = []
theorem and3 (n : Int) : Go.bits .and .i64 n 3 = n % 4 := by
 unfold Go.bits
 have e : ((BitVec.ofInt 64 n &&& BitVec.ofInt 64 3).toNat : Int) = n % 4 := by
  rw [BitVec.toNat_and, BitVec.toNat_ofInt, show (BitVec.ofInt 64 3).toNat = 2 ^ 2 - 1 by decide, Nat.and_two_pow_sub_one_eq_mod]
  omega
 show IntKind.i64.wrap ((BitVec.ofInt 64 n &&& BitVec.ofInt 64 3).toNat : Int) = n % 4
 rw [e, IntKind.wrap_i64]
 omega
theorem and31 (n : Int) : Go.bits .and .i64 n 31 = n % 32 := by
 unfold Go.bits
 have e : ((BitVec.ofInt 64 n &&& BitVec.ofInt 64 31).toNat : Int) = n % 32 := by
  rw [BitVec.toNat_and, BitVec.toNat_ofInt, show (BitVec.ofInt 64 31).toNat = 2 ^ 5 - 1 by decide, Nat.and_two_pow_sub_one_eq_mod]
  omega
 show IntKind.i64.wrap ((BitVec.ofInt 64 n &&& BitVec.ofInt 64 31).toNat : Int) = n % 32
 rw [e, IntKind.wrap_i64]
 omega
theorem and4095 (n : Int) : Go.bits .and .i64 n 4095 = n % 4096 := by
 unfold Go.bits
 have e : ((BitVec.ofInt 64 n &&& BitVec.ofInt 64 4095).toNat : Int) = n % 4096 := by
  rw [BitVec.toNat_and, BitVec.toNat_ofInt, show (BitVec.ofInt 64 4095).toNat = 2 ^ 12 - 1 by decide, Nat.and_two_pow_sub_one_eq_mod]
  omega
 show IntKind.i64.wrap ((BitVec.ofInt 64 n &&& BitVec.ofInt 64 4095).toNat : Int) = n % 4096
 rw [e, IntKind.wrap_i64]
 omega
theorem and1023 (n : Int) : Go.bits .and .i64 n 1023 = n % 1024 := by
 unfold Go.bits
 have e : ((BitVec.ofInt 64 n &&& BitVec.ofInt 64 1023).toNat : Int) = n % 1024 := by
  rw [BitVec.toNat_and, BitVec.toNat_ofInt, show (BitVec.ofInt 64 1023).toNat = 2 ^ 10 - 1 by decide, Nat.and_two_pow_sub_one_eq_mod]
  omega
 show IntKind.i64.wrap ((BitVec.ofInt 64 n &&& BitVec.ofInt 64 1023).toNat : Int) = n % 1024
 rw [e, IntKind.wrap_i64]
 omega
theorem and38 (n : Int) : Go.bits .and .i64 n 274877906943 = n % 274877906944 := by
 unfold Go.bits
 have e : ((BitVec.ofInt 64 n &&& BitVec.ofInt 64 274877906943).toNat : Int) = n % 274877906944 := by
  rw [BitVec.toNat_and, BitVec.toNat_ofInt, show (BitVec.ofInt 64 274877906943).toNat = 2 ^ 38 - 1 by decide, Nat.and_two_pow_sub_one_eq_mod]
  omega
 show IntKind.i64.wrap ((BitVec.ofInt 64 n &&& BitVec.ofInt 64 274877906943).toNat : Int) = n % 274877906944
 rw [e, IntKind.wrap_i64]
 omega
theorem tmod_bd (x : Int) {m : Int} (hm : 0 < m) : -m < x.tmod m ∧ x.tmod m < m := by
 have h1 := Int.tmod_lt_of_pos x hm
 have h2 := Int.tmod_lt_of_pos (-x) hm
 rw [Int.neg_tmod] at h2
 omega
theorem held_ok (hg : dr5_Gone.f P L a2 a3 a4 a5 a6 a7 a8 a9 a10 a11 a12 = some g) (h1 : 1 ≤ g) (hP : P.length ≤ 6) (hd : 0 ≤ a6 ∧ a6 ≤ 1000) (y : S55) : ∃ z : S55, dl19_held.f 100 P L a2 a3 a4 a5 a6 a7 a8 a9 a10 a11 a12 y.f0 y.f1 y.f2 y.f3 y.f4 y.f5 y.f6 y.f7 = some (z.f0, z.f1, z.f2, z.f3, z.f4, z.f5, z.f6, z.f7) ∧ NodeOk P.length g a6 z := by
 unfold dl19_held.f
 have e6 : wrap64 (a6 + 1) = a6 + 1 := by unfold wrap64; omega
 rw [e6, if_neg (by omega), and3, and31, and4095, and1023, and38]
 have b1 := tmod_bd y.f2 (show 0 < a6 + 1 by omega)
 have b2 := tmod_bd y.f3 (show (0 : Int) < 2147483648 by decide)
 have b3 : (y.f0 % 4).tmod 3 = y.f0 % 4 % 3 := Int.tmod_eq_emod_of_nonneg (by omega)
 rw [b3]
 by_cases e : y.f0 % 4 % 3 = 2
 ·rw [if_pos e]
  obtain ⟨r, hr, hok⟩ := whole_ok hg h1 hP y.f5
  rw [hr]
  exact ⟨⟨y.f0 % 4 % 3, y.f1 % 32, y.f2.tmod (a6 + 1), y.f3.tmod 2147483648, y.f4 % 274877906944, r, y.f6 % 4096, y.f7 % 1024⟩, rfl, by dsimp only; omega, by dsimp only; omega, ⟨by show -a6 ≤ y.f2.tmod (a6 + 1); omega, by show y.f2.tmod (a6 + 1) ≤ a6; omega⟩, b2, by dsimp only; omega, by dsimp only; omega, by dsimp only; omega, fun _ => hok, fun h => absurd e h⟩
 ·rw [if_neg e]
  exact ⟨⟨y.f0 % 4 % 3, y.f1 % 32, y.f2.tmod (a6 + 1), y.f3.tmod 2147483648, y.f4 % 274877906944, [], y.f6 % 4096, y.f7 % 1024⟩, rfl, by dsimp only; omega, by dsimp only; omega, ⟨by show -a6 ≤ y.f2.tmod (a6 + 1); omega, by show y.f2.tmod (a6 + 1) ≤ a6; omega⟩, b2, by dsimp only; omega, by dsimp only; omega, by dsimp only; omega, fun h => absurd h e, fun _ => rfl⟩
end
structure MadeIs (q s : Nat) (cyc dr ag lo li sp : Int) : Prop where
 hq : 1 ≤ q ∧ q ≤ 4
 hs : s ≤ 3
 hc : 20000 ≤ cyc ∧ cyc ≤ 27000
 hd : 0 ≤ dr ∧ dr ≤ 140
 hlo : lo = 0 ∨ lo = 1
 hag : ((q : Int) - 1) * (lo + 1) + 1 ≤ ag ∧ ag ≤ 12
 hli : (q : Int) * (lo + 1) + 2 ≤ li ∧ li ≤ 12
 hsp : (q : Int) * (lo + 1) + 2 ≤ sp ∧ sp ≤ 12
theorem made_is (n : Int) : ∃ (q s : Nat) (cyc dr ag lo li sp : Int), MadeIs q s cyc dr ag lo li sp ∧ dr26_Made.f n = some ((madeNet q s).1, (madeNet q s).2, cyc, 60, 100, 3 * Eg dr cyc, dr, 300000, ag, lo, li, sp, 12) := by
 have hk : 0 ≤ (((1 + n % 65536 % 4).toNat : Int) - 1) * (n % 65536 / 1024 % 2 + 1) ∧ (((1 + n % 65536 % 4).toNat : Int) - 1) * (n % 65536 / 1024 % 2 + 1) ≤ 6 := by
  rcases (show n % 65536 / 1024 % 2 = 0 ∨ n % 65536 / 1024 % 2 = 1 by omega) with h | h <;> rw [h] <;> omega
 have hk2 : 0 ≤ ((1 + n % 65536 % 4).toNat : Int) * (n % 65536 / 1024 % 2 + 1) ∧ ((1 + n % 65536 % 4).toNat : Int) * (n % 65536 / 1024 % 2 + 1) ≤ 8 := by
  rcases (show n % 65536 / 1024 % 2 = 0 ∨ n % 65536 / 1024 % 2 = 1 by omega) with h | h <;> rw [h] <;> omega
 refine ⟨(1 + n % 65536 % 4).toNat, (n % 65536 / 4 % 4).toNat, 20000 + 1000 * (n % 65536 / 16 % 8), 20 * (n % 65536 / 128 % 8), (((1 + n % 65536 % 4).toNat : Int) - 1) * (n % 65536 / 1024 % 2 + 1) + 1 + n % 65536 / 2048 % 4, n % 65536 / 1024 % 2, ((1 + n % 65536 % 4).toNat : Int) * (n % 65536 / 1024 % 2 + 1) + 2 + n % 65536 / 8192 % 2, ((1 + n % 65536 % 4).toNat : Int) * (n % 65536 / 1024 % 2 + 1) + 2, ⟨by omega, by omega, by omega, by omega, by omega, by omega, by omega, by omega⟩, ?_⟩
 unfold dr26_Made.f
 rw [Edge_eq _ _ (by omega) (by omega) (by omega) (by omega) (by omega) (by omega) (by omega) (by omega) (by omega) (by omega) (by omega) (by omega) (by omega)]
 simp only [Option.bind_some]
 have := Eg_bd (dr := 20 * (n % 65536 / 128 % 8)) (cyc := 20000 + 1000 * (n % 65536 / 16 % 8)) (by omega) (by omega) (by omega) (by omega)
 rw [if_pos (by omega)]
theorem len_made (q s : Nat) (h1 : 1 ≤ q) (h4 : q ≤ 4) (h3 : s ≤ 3) : (madeNet q s).1.length = q ∧ (madeNet q s).2.length ≤ 10 ∧ netB (madeNet q s).1 (madeNet q s).2 = true := by
 refine made_cases (X := fun q s => (madeNet q s).1.length = q ∧ (madeNet q s).2.length ≤ 10 ∧ netB (madeNet q s).1 (madeNet q s).2 = true) ⟨?_, ?_, ?_, ?_, ?_, ?_, ?_, ?_, ?_, ?_, ?_, ?_, ?_, ?_, ?_, ?_⟩ q s h1 h4 h3 <;> exact ⟨by kernel_rfl, Nat.le_of_ble_eq_true (by kernel_rfl), by kernel_rfl⟩
theorem ports_made (a2 a3 a4 a5 a6 a7 a8 a9 a10 a11 a12 : Int) (q s : Nat) (h1 : 1 ≤ q) (h4 : q ≤ 4) (h3 : s ≤ 3) : ((List.range (madeNet q s).1.length).all fun i => match dr5_ports.f 100 (madeNet q s).1 (madeNet q s).2 a2 a3 a4 a5 a6 a7 a8 a9 a10 a11 a12 (i : Int) with | some p => decide (0 ≤ p ∧ p ≤ 6 ∧ 1 ≤ (rd_T68 (madeNet q s).1 (i : Int)).f0 ∧ (rd_T68 (madeNet q s).1 (i : Int)).f0 ≤ 12) | none => false) = true := by
 refine made_cases (X := fun q s => ((List.range (madeNet q s).1.length).all fun i => match dr5_ports.f 100 (madeNet q s).1 (madeNet q s).2 a2 a3 a4 a5 a6 a7 a8 a9 a10 a11 a12 (i : Int) with | some p => decide (0 ≤ p ∧ p ≤ 6 ∧ 1 ≤ (rd_T68 (madeNet q s).1 (i : Int)).f0 ∧ (rd_T68 (madeNet q s).1 (i : Int)).f0 ≤ 12) | none => false) = true) ⟨?_, ?_, ?_, ?_, ?_, ?_, ?_, ?_, ?_, ?_, ?_, ?_, ?_, ?_, ?_, ?_⟩ q s h1 h4 h3 <;> kernel_rfl
theorem jump_eq (P : List S68) (L : List S71) {a2 a3 a4 a5 a6 a7 a8 a9 a10 a11 a12 : Int} (h1 : 0 ≤ a6) (h2 : a6 ≤ 140) (h3 : 20000 ≤ a2) (h4 : a2 ≤ 27000) (h5 : 0 ≤ a8) (h6 : a8 ≤ 12) : ∃ j, dr5_jump.f P L a2 a3 a4 a5 a6 a7 a8 a9 a10 a11 a12 = some j ∧ 0 ≤ j ∧ j ≤ 2000 := by
 have hb := dc_bd h1 h2 h3 h4
 have he := Eg_bd h1 h2 h3 h4
 unfold dr5_jump.f dr5_step.f dr5_slew.f
 rw [edge_eq P L h1 h2 h3 h4, show wrap64 (a6 * a2) = a6 * a2 by unfold wrap64; omega, up_eq (by omega) (by omega)]
 simp only [Option.bind_some]
 have hu : 0 ≤ up (a6 * a2) ∧ up (a6 * a2) ≤ 4 := by unfold up; omega
 generalize up (a6 * a2) = u at *
 generalize Eg a6 a2 = e at *
 rw [show wrap64 (4 * e) = 4 * e by unfold wrap64; omega, show wrap64 (2 * u) = 2 * u by unfold wrap64; omega, show wrap64 (4 * e + 2 * u) = 4 * e + 2 * u by unfold wrap64; omega, show wrap64 (4 * e + 2 * u + 2) = 4 * e + 2 * u + 2 by unfold wrap64; omega, show wrap64 (2 * a8) = 2 * a8 by unfold wrap64; omega]
 have q1 : 0 ≤ 2 * a8 * (4 * e + 2 * u + 2) := Int.mul_nonneg (by omega) (by omega)
 have q2 : 2 * a8 * (4 * e + 2 * u + 2) ≤ 24 * (4 * e + 2 * u + 2) := Int.mul_le_mul_of_nonneg_right (by omega) (by omega)
 rw [show wrap64 (2 * a8 * (4 * e + 2 * u + 2)) = 2 * a8 * (4 * e + 2 * u + 2) by unfold wrap64; omega]
 exact ⟨_, rfl, by unfold wrap64; omega, by unfold wrap64; omega⟩
theorem gone_made {q s : Nat} {cyc dr ag lo li sp : Int} (h : MadeIs q s cyc dr ag lo li sp) : dr5_Gone.f (madeNet q s).1 (madeNet q s).2 cyc 60 100 (3 * Eg dr cyc) dr 300000 ag lo li sp 12 = some (ag + 1) ∧ 1 ≤ ag ∧ rangeOk cyc dr 300000 ag lo := by
 have hq := h.hq; have hc := h.hc; have hd := h.hd; have hl := h.hlo; have ha := h.hag
 have h1 : 1 ≤ ag := by
  have : 0 ≤ ((q : Int) - 1) * (lo + 1) := Int.mul_nonneg (by omega) (by omega)
  omega
 have hr : rangeOk cyc dr 300000 ag lo := ⟨by omega, by omega, by omega, by omega, by omega, by omega, by omega, by omega, by omega, by omega⟩
 refine ⟨?_, h1, hr⟩
 unfold dr5_Gone.f dr5_ranged.f
 rw [good_made cyc 60 100 (3 * Eg dr cyc) dr 300000 ag lo li sp 12 q s hq.1 hq.2 h.hs]
 simp only [Option.bind_some, if_true]
 rw [show dr5_out.f (madeNet q s).1 (madeNet q s).2 cyc 60 100 (3 * Eg dr cyc) dr 300000 ag lo li sp 12 = some 0 from if_pos hr]
 simp only [Option.bind_some, beq_self_eq_true, if_true]
 rw [show wrap64 (ag + 1) = ag + 1 by unfold wrap64; omega]
theorem fit_made {q s : Nat} {cyc dr ag lo li sp : Int} (h : MadeIs q s cyc dr ag lo li sp) (part : Int) (p0 : 0 ≤ part) (p1 : part < q) : dr5_Fit.f (madeNet q s).1 (madeNet q s).2 cyc 60 100 (3 * Eg dr cyc) dr 300000 ag lo li sp 12 part = some true := by
 have hq := h.hq; have hc := h.hc; have hd := h.hd; have hl := h.hlo; have ha := h.hag; have hli := h.hli; have hsp := h.hsp
 obtain ⟨l1, l2, l3⟩ := len_made q s hq.1 hq.2 h.hs
 obtain ⟨_, g1, hr⟩ := gone_made h
 have he := Eg_bd hd.1 hd.2 hc.1 hc.2
 have hG := good_made cyc 60 100 (3 * Eg dr cyc) dr 300000 ag lo li sp 12 q s hq.1 hq.2 h.hs
 unfold dr5_Good.f at hG
 unfold dr5_Fit.f
 rw [if_pos ⟨l3, p0, by rw [l1]; exact p1, hr⟩]
 split at hG
 ·obtain ⟨d, hdd, hG⟩ := bS hG
  split at hG
  ·rename_i hx
   rw [hdd]
   simp only [Option.bind_some]
   rw [if_pos hx, edge_eq _ _ hd.1 hd.2 hc.1 hc.2]
   simp only [Option.bind_some]
   obtain ⟨j, hj, j0, j1⟩ := jump_eq (madeNet q s).1 (madeNet q s).2 (a3 := 60) (a4 := 100) (a5 := 3 * Eg dr cyc) (a7 := 300000) (a9 := lo) (a10 := li) (a11 := sp) (a12 := 12) hd.1 hd.2 hc.1 hc.2 (show 0 ≤ ag by omega) ha.2
   rw [hj]
   simp only [Option.bind_some]
   rw [if_pos]
   unfold fitsC
   have hsq : 0 ≤ (q : Int) * sp ∧ (q : Int) * sp ≤ 48 := ⟨Int.mul_nonneg (by omega) (by
    have : 0 ≤ (q : Int) * (lo + 1) := Int.mul_nonneg (by omega) (by omega)
    omega), by
    have : (q : Int) * sp ≤ (q : Int) * 12 := Int.mul_le_mul_of_nonneg_left (by omega) (by omega)
    omega⟩
   rw [Bool.and_eq_true, decide_eq_true_eq, List.all_eq_true, l1]
   refine ⟨⟨by omega, by omega, by omega, by omega, by omega, by omega, by omega, by omega, by omega, by omega, by omega, by omega, by omega, by omega, by omega, by omega, by omega⟩, fun i hi => ?_⟩
   have hP := List.all_eq_true.1 (ports_made cyc 60 100 (3 * Eg dr cyc) dr 300000 ag lo li sp 12 q s hq.1 hq.2 h.hs) i (by rw [l1]; exact hi)
   cases hp : dr5_ports.f 100 (madeNet q s).1 (madeNet q s).2 cyc 60 100 (3 * Eg dr cyc) dr 300000 ag lo li sp 12 (i : Int) with
   | none => rw [hp] at hP; cases hP
   | some p =>
    rw [hp] at hP
    have := oT hP
    refine dT ⟨by omega, by omega, by omega, by omega, by omega⟩
  ·cases hG
 ·cases hG
theorem mdf_made {q s : Nat} {cyc dr ag lo li sp : Int} (h : MadeIs q s cyc dr ag lo li sp) (part : Int) (p0 : 0 ≤ part) (p1 : part < q) : ∃ m : Nat, MdF (madeNet q s).1 (madeNet q s).2 cyc 60 100 (3 * Eg dr cyc) dr 300000 ag lo li sp 12 part m 100 (NodeOk q (ag + 1) dr) (AgeOk q (ag + 1)) ∧ (m : Int) = (rd_T68 (madeNet q s).1 part).f0 := by
 have hq := h.hq
 obtain ⟨l1, l2, l3⟩ := len_made q s hq.1 hq.2 h.hs
 obtain ⟨hg, g1, hr⟩ := gone_made h
 obtain ⟨i, rfl⟩ := Int.eq_ofNat_of_zero_le p0
 have hP := List.all_eq_true.1 (ports_made cyc 60 100 (3 * Eg dr cyc) dr 300000 ag lo li sp 12 q s hq.1 hq.2 h.hs) i (List.mem_range.2 (by rw [l1]; omega))
 have hf := fit_made h (i : Int) p0 p1
 have hb : 1 ≤ (rd_T68 (madeNet q s).1 (i : Int)).f0 ∧ (rd_T68 (madeNet q s).1 (i : Int)).f0 ≤ 12 := by
  split at hP
  ·exact (oT hP).2.2
  ·cases hP
 refine ⟨(rd_T68 (madeNet q s).1 (i : Int)).f0.toNat, ⟨?_, fun y _ => ?_, fun l _ => ?_, by omega⟩, by omega⟩
 ·unfold dr17_New.f
  rw [hf]
  simp only [Option.bind_some, if_true]
  rw [if_pos p0, if_pos (by rw [l1]; exact p1), if_pos (by omega), if_pos (by omega)]
 ·have := held_ok hg (by omega) (by rw [l1]; omega) (by have := h.hd; omega) y
  rw [l1] at this
  exact this
 ·have := whole_ok hg (by omega) (by rw [l1]; omega) l
  rw [l1] at this
  exact this
set_option linter.unusedVariables false
set_option linter.unusedSimpArgs false
set_option maxRecDepth 100000
set_option maxHeartbeats 4000000 in
theorem gone_walk (A0 : Option Addr) (c0 : Nat) (P : List S68) (A1 : Option Addr) (c1 : Nat) (Q : List S71) (a2 a3 a4 a5 a6 a7 a8 a9 a10 a11 a12 r1 r2 r3 r4 r5 r6 r7 : Int) (w : World) (hN : NetAt w P A0 c0 Q A1 c1) (hi : bounds_in.f P Q a2 a3 a4 a5 a6 a7 a8 a9 a10 a11 a12 = some (r1, r2, r3, r4, r5, r6, r7)) :
  Calls Tryz.prog 24 #[.agg #[.slice A0 P.length c0, .slice A1 Q.length c1, .int .i64 a2, .int .i64 a3, .int .i64 a4, .int .i64 a5, .int .i64 a6, .int .i64 a7, .int .i64 a8, .int .i64 a9, .int .i64 a10, .int .i64 a11, .int .i64 a12]] w fun e w' => e = .returned (.int .i64 r7) ∧ Below w.heap.size w w' := by
 have HN := am hN
 have HI := am hi
 clear hN hi
 have BC := am (heap_alloc_new w (.cells #[.slice A0 P.length c0, .slice A1 Q.length c1, .int .i64 a2, .int .i64 a3, .int .i64 a4, .int .i64 a5, .int .i64 a6, .int .i64 a7, .int .i64 a8, .int .i64 a9, .int .i64 a10, .int .i64 a11, .int .i64 a12] 25))
 have HB := am (below_alloc (Below.refl w.heap.size w) (.cells #[.slice A0 P.length c0, .slice A1 Q.length c1, .int .i64 a2, .int .i64 a3, .int .i64 a4, .int .i64 a5, .int .i64 a6, .int .i64 a7, .int .i64 a8, .int .i64 a9, .int .i64 a10, .int .i64 a11, .int .i64 a12] 25))
 go_enter Tryz.func24, Tryz.ntmps24
 go_upto_region 1 with fail
 generalize w.alloc (.cells #[.slice A0 P.length c0, .slice A1 Q.length c1, .int .i64 a2, .int .i64 a3, .int .i64 a4, .int .i64 a5, .int .i64 a6, .int .i64 a7, .int .i64 a8, .int .i64 a9, .int .i64 a10, .int .i64 a11, .int .i64 a12] 25) = w1 at *
 obtain ⟨n0, n1, n2, n3, n4, n5, n6, n7, n8, n9, n10, n11, n12⟩ := cellsK13 BC.out
 go_wp2_with fail
 refine (bounds_in.calls A0 c0 P A1 c1 Q a2 a3 a4 a5 a6 a7 a8 a9 a10 a11 a12 r1 r2 r3 r4 r5 r6 r7 w1 (HN.out.below HB.out).p (HN.out.below HB.out).cp (HN.out.below HB.out).q (HN.out.below HB.out).cq HI.out).mono ?_
 rintro e w2 ⟨rfl, hb⟩
 have HB2 := am (below_step HB.out hb)
 clear hb n0 n1 n2 n3 n4 n5 n6 n7 n8 n9 n10 n11 n12
 have hfd6 : ∀ w_ : World, (Instr.field 85 (.agg #[.int .i64 r1, .int .i64 r2, .int .i64 r3, .int .i64 r4, .int .i64 r5, .int .i64 r6, .int .i64 r7]) 6).run Tryz.prog w_ = .ok (.int .i64 r7) w_ := fun _ => by kernel_rfl
 go_wp2_with fail
 go_ret
 exact ⟨rfl, HB2.out⟩
theorem gone_both {q s : Nat} {cyc dr ag lo li sp : Int} (h : MadeIs q s cyc dr ag lo li sp) :
  (∀ (A0 : Option Addr) (c0 : Nat) (A1 : Option Addr) (c1 : Nat) (W : World), NetAt W (madeNet q s).1 A0 c0 (madeNet q s).2 A1 c1 → Calls Tryz.prog 24 #[.agg #[.slice A0 (madeNet q s).1.length c0, .slice A1 (madeNet q s).2.length c1, .int .i64 cyc, .int .i64 60, .int .i64 100, .int .i64 (3 * Eg dr cyc), .int .i64 dr, .int .i64 300000, .int .i64 ag, .int .i64 lo, .int .i64 li, .int .i64 sp, .int .i64 12]] W fun e w' => e = .returned (.int .i64 (ag + 1)) ∧ Below W.heap.size W w') ∧
  (∀ (A0 : Option Addr) (c0 : Nat) (A1 : Option Addr) (c1 : Nat) (W : World), NetAt W (madeNet q s).1 A0 c0 (madeNet q s).2 A1 c1 → Calls Tryz.prog 30 #[.agg #[.slice A0 (madeNet q s).1.length c0, .slice A1 (madeNet q s).2.length c1, .int .i64 cyc, .int .i64 60, .int .i64 100, .int .i64 (3 * Eg dr cyc), .int .i64 dr, .int .i64 300000, .int .i64 ag, .int .i64 lo, .int .i64 li, .int .i64 sp, .int .i64 12]] W fun e w' => e = .returned (.int .i64 (ag + 1)) ∧ Below W.heap.size W w') := by
 have hq := h.hq; have hc := h.hc; have hd := h.hd; have hl := h.hlo; have ha := h.hag
 obtain ⟨hg, g1, hr⟩ := gone_made h
 constructor
 ·intro A0 c0 A1 c1 W hN
  obtain ⟨b3, b4, b5, hi⟩ := in_eq q s (a3 := 60) (a4 := 100) (a5 := 3 * Eg dr cyc) (a10 := li) (a11 := sp) (a12 := 12) hq.1 hq.2 h.hs hd.1 hd.2 hc.1 hc.2 (show (0 : Int) ≤ 300000 by decide) (show (300000 : Int) ≤ 400000 by decide) g1 (show ag ≤ 200 by omega) (show 0 ≤ lo by omega) (show lo ≤ 20 by omega)
  rw [show wrap64 (ag + 1) = ag + 1 by unfold wrap64; omega] at hi
  exact gone_walk A0 c0 _ A1 c1 _ _ _ _ _ _ _ _ _ _ _ _ _ _ _ _ _ _ _ W hN hi
 ·intro A0 c0 A1 c1 W hN
  exact dr5_Gone.calls A0 c0 _ A1 c1 _ _ _ _ _ _ _ _ _ _ _ _ _ W hN.p hN.cp hN.q hN.cq hg
set_option maxHeartbeats 4000000 in
theorem within_walk (AP : Option Addr) (cP : Nat) (P : List S68) (AQ : Option Addr) (cQ : Nat) (Q : List S71) (a2 a3 a4 a5 a6 a7 a8 a9 a10 a11 a12 : Int) (A : Option Addr) (c : Nat) (xs : List S55) (on : Bool) (st : Int) (A3 : Option Addr) (c3 : Nat) (ag : List Int) (nr : Int) (w : World) (hN : NetAt w P AP cP Q AQ cQ) (hX : CellAt w ⟨xs, ⟨on, st, ag⟩⟩ A c A3 c3) (hl : xs.length ≤ 1000) (hx : ∀ z ∈ xs, z.f5.length ≤ 1000000)
  (hn : bounds_Near.f P Q a2 a3 a4 a5 a6 a7 a8 a9 a10 a11 a12 = some nr) :
  Calls Tryz.prog 11 #[.agg #[.slice AP P.length cP, .slice AQ Q.length cQ, .int .i64 a2, .int .i64 a3, .int .i64 a4, .int .i64 a5, .int .i64 a6, .int .i64 a7, .int .i64 a8, .int .i64 a9, .int .i64 a10, .int .i64 a11, .int .i64 a12], .agg #[.slice A xs.length c, .bool on, .int .i64 st, .slice A3 ag.length c3]] w fun e w' => e = .returned (.bool (withinV nr xs (begs xs on st))) ∧ Below w.heap.size w w' := by
 have HKN := am hn
 have HN := am hN
 have HX := am hX
 have HS := am (And.intro hl hx)
 clear hN hX hl hx hn
 have b1 := below_alloc (Below.refl w.heap.size w) (.cells #[.slice AP P.length cP, .slice AQ Q.length cQ, .int .i64 a2, .int .i64 a3, .int .i64 a4, .int .i64 a5, .int .i64 a6, .int .i64 a7, .int .i64 a8, .int .i64 a9, .int .i64 a10, .int .i64 a11, .int .i64 a12] 25)
 have b2 := below_alloc b1 (.cells #[.slice A xs.length c, .bool on, .int .i64 st, .slice A3 ag.length c3] 37)
 have hsz : (w.alloc (.cells #[.slice AP P.length cP, .slice AQ Q.length cQ, .int .i64 a2, .int .i64 a3, .int .i64 a4, .int .i64 a5, .int .i64 a6, .int .i64 a7, .int .i64 a8, .int .i64 a9, .int .i64 a10, .int .i64 a11, .int .i64 a12] 25)).heap.size = w.heap.size + 1 := Array.size_push _
 have HBN : Aside0 (((w.alloc (.cells #[.slice AP P.length cP, .slice AQ Q.length cQ, .int .i64 a2, .int .i64 a3, .int .i64 a4, .int .i64 a5, .int .i64 a6, .int .i64 a7, .int .i64 a8, .int .i64 a9, .int .i64 a10, .int .i64 a11, .int .i64 a12] 25)).alloc (.cells #[.slice A xs.length c, .bool on, .int .i64 st, .slice A3 ag.length c3] 37)).heap[w.heap.size]? = some (.cells #[.slice AP P.length cP, .slice AQ Q.length cQ, .int .i64 a2, .int .i64 a3, .int .i64 a4, .int .i64 a5, .int .i64 a6, .int .i64 a7, .int .i64 a8, .int .i64 a9, .int .i64 a10, .int .i64 a11, .int .i64 a12] 25 (0, 0))) := ⟨((below_alloc (Below.refl _ _) _).block w.heap.size (blk_lt (heap_alloc_new w _))).trans (heap_alloc_new w _)⟩
 have HBX : Aside0 (((w.alloc (.cells #[.slice AP P.length cP, .slice AQ Q.length cQ, .int .i64 a2, .int .i64 a3, .int .i64 a4, .int .i64 a5, .int .i64 a6, .int .i64 a7, .int .i64 a8, .int .i64 a9, .int .i64 a10, .int .i64 a11, .int .i64 a12] 25)).alloc (.cells #[.slice A xs.length c, .bool on, .int .i64 st, .slice A3 ag.length c3] 37)).heap[w.heap.size + 1]? = some (.cells #[.slice A xs.length c, .bool on, .int .i64 st, .slice A3 ag.length c3] 37 (0, 0))) := ⟨by have h := heap_alloc_new (w.alloc (.cells #[.slice AP P.length cP, .slice AQ Q.length cQ, .int .i64 a2, .int .i64 a3, .int .i64 a4, .int .i64 a5, .int .i64 a6, .int .i64 a7, .int .i64 a8, .int .i64 a9, .int .i64 a10, .int .i64 a11, .int .i64 a12] 25)) (.cells #[.slice A xs.length c, .bool on, .int .i64 st, .slice A3 ag.length c3] 37); rwa [hsz] at h⟩
 have HB := am b2
 clear b1 b2 hsz
 go_enter Tryz.func11, Tryz.ntmps11
 go_upto_region 1 with fail
 generalize (w.alloc (.cells #[.slice AP P.length cP, .slice AQ Q.length cQ, .int .i64 a2, .int .i64 a3, .int .i64 a4, .int .i64 a5, .int .i64 a6, .int .i64 a7, .int .i64 a8, .int .i64 a9, .int .i64 a10, .int .i64 a11, .int .i64 a12] 25)).alloc (.cells #[.slice A xs.length c, .bool on, .int .i64 st, .slice A3 ag.length c3] 37) = w1 at *
 obtain ⟨ca0, ca1, ca2, ca3, ca4, ca5, ca6, ca7, ca8, ca9, ca10, ca11, ca12⟩ := cellsK13 HBN.out
 obtain ⟨cb0, cb1, cb2, cb3⟩ := cellsK4 HBX.out
 go_wp2_with fail
 clear ca0 ca1 ca2 ca3 ca4 ca5 ca6 ca7 ca8 ca9 ca10 ca11 ca12 cb0 cb1 cb2 cb3
 have HSZ := am HB.out.size
 refine (starts_walk A c xs on st A3 c3 ag w1 (HX.out.below HB.out).r0 (HX.out.below HB.out).c0 (HX.out.below HB.out).r3 (HX.out.below HB.out).c3 (by have := HS.out.1; omega)).mono ?_
 rintro e w2 ⟨v, rfl, ho, hb⟩
 obtain ⟨L, hL⟩ : ∃ L, (syn xs).map (·.f3) = L := ⟨_, rfl⟩
 have HOL : Aside0 (L.length ≤ 1000) := ⟨by have := syn_len xs; have := HS.out.1; rw [← hL, List.length_map]; omega⟩
 rw [hL] at ho
 have HVL := am hL
 clear hL
 have HLw := am hb
 have HB_ := am (below_step HB.out HLw.out)
 have HBN_ := am ((HLw.out.block w.heap.size (blk_lt HBN.out)).trans HBN.out)
 have HBX_ := am ((HLw.out.block (w.heap.size + 1) (blk_lt HBX.out)).trans HBX.out)
 clear HB HBN HBX
 have HB := HB_
 have HBN := HBN_
 have HBX := HBX_
 clear HB_ HBN_ HBX_
 clear hb
 obtain ⟨A2, c2, rfl⟩ := Kd.R_slice ho
 have HO := am ho
 have HNE := am (And.intro (Kd.R_ne ho HBN.out (by decide)) (Kd.R_ne ho HBX.out (by decide)))
 clear ho
 cases on with
 | false =>
  obtain ⟨ca0, ca1, ca2, ca3, ca4, ca5, ca6, ca7, ca8, ca9, ca10, ca11, ca12⟩ := cellsK13 HBN.out
  obtain ⟨cb0, cb1, cb2, cb3⟩ := cellsK4 HBX.out
  have HLL : Aside0 (L.length ≤ 1001) := ⟨by have := HOL.out; omega⟩
  have hrr := Kd.R_reads' HO.out
  have HL := am hrr.2.2
  have HLc := am hrr.2.1
  clear hrr HO HOL
  go_upto_region 4 with fail
  go_wp2_with fail
  have HV : Aside0 (withinV nr xs (begs xs false st) = if agreeB xs = true then (if L = [] then true else if (sprd L).2 = true then decide ((sprd L).1 ≤ nr) else false) else false) := ⟨by rw [← HVL.out]; rfl⟩
  clear HVL
  refine (gspread_walk A2 c2 L w2 HL.out (by have := HLL.out; omega)).mono ?_
  rintro e w6 ⟨rfl, rfl⟩
  go_upto_region 5 with fail
  clear ca0 ca1 ca2 ca3 ca4 ca5 ca6 ca7 ca8 ca9 ca10 ca11 ca12 cb0 cb1 cb2 cb3
  obtain ⟨ca0, ca1, ca2, ca3, ca4, ca5, ca6, ca7, ca8, ca9, ca10, ca11, ca12⟩ := cellsK13 HBN.out
  obtain ⟨cb0, cb1, cb2, cb3⟩ := cellsK4 HBX.out
  go_wp2_with fail
  clear ca0 ca1 ca2 ca3 ca4 ca5 ca6 ca7 ca8 ca9 ca10 ca11 ca12 cb0 cb1 cb2 cb3
  refine (agree_walk A c xs false st A3 c3 ag w6 (HX.out.below HB.out).r0 (HX.out.below HB.out).c0 (HX.out.below HB.out).r3 (HX.out.below HB.out).c3 (by have := HS.out.1; omega) HS.out.2).mono ?_
  rintro e w7 ⟨rfl, hb⟩
  have HLy := am hb
  have HB_ := am (below_step HB.out HLy.out)
  have HBN_ := am ((HLy.out.block w.heap.size (blk_lt HBN.out)).trans HBN.out)
  have HBX_ := am ((HLy.out.block (w.heap.size + 1) (blk_lt HBX.out)).trans HBX.out)
  clear HB HBN HBX
  have HB := HB_
  have HBN := HBN_
  have HBX := HBX_
  clear HB_ HBN_ HBX_
  clear hb
  obtain ⟨ca0, ca1, ca2, ca3, ca4, ca5, ca6, ca7, ca8, ca9, ca10, ca11, ca12⟩ := cellsK13 HBN.out
  obtain ⟨cb0, cb1, cb2, cb3⟩ := cellsK4 HBX.out
  cases hqa : agreeB xs with
  | false =>
   rw [hqa] at HV
   go_wp2_with fail
   go_ret
   refine ⟨?_, HB.out⟩
   rw [HV.out]
   rfl
  | true =>
   rw [hqa] at HV
   by_cases h0 : L = []
   ·have hl0 : ((L.length : Int) == 0) = true := by simp [h0]
    have HL0 := am h0
    clear h0
    go_wp2_with fail
    go_ret
    refine ⟨?_, HB.out⟩
    rw [HV.out]
    simp only [if_true, if_pos HL0.out]
    rfl
   ·have hl0 : ((L.length : Int) == 0) = false := by have := List.length_pos_iff.2 h0; simp; omega
    have HL0 := am h0
    clear h0
    cases hok : (sprd L).2 with
    | false =>
     rw [hok] at HV
     go_wp2_with fail
     go_ret
     refine ⟨?_, HB.out⟩
     rw [HV.out]
     simp only [if_true, if_neg HL0.out]
     rfl
    | true =>
     rw [hok] at HV
     go_wp2_with fail
     clear ca0 ca1 ca2 ca3 ca4 ca5 ca6 ca7 ca8 ca9 ca10 ca11 ca12 cb0 cb1 cb2 cb3
     refine (bounds_Near.calls AP cP P AQ cQ Q a2 a3 a4 a5 a6 a7 a8 a9 a10 a11 a12 _ w7 (HN.out.below HB.out).p (HN.out.below HB.out).cp (HN.out.below HB.out).q (HN.out.below HB.out).cq HKN.out).mono ?_
     rintro e w8 ⟨rfl, hb⟩
     have HLz := am hb
     have HB_ := am (below_step HB.out HLz.out)
     have HBN_ := am ((HLz.out.block w.heap.size (blk_lt HBN.out)).trans HBN.out)
     have HBX_ := am ((HLz.out.block (w.heap.size + 1) (blk_lt HBX.out)).trans HBX.out)
     clear HB HBN HBX
     have HB := HB_
     have HBN := HBN_
     have HBX := HBX_
     clear HB_ HBN_ HBX_
     clear hb
     go_wp2_with fail
     go_ret
     refine ⟨?_, HB.out⟩
     rw [HV.out]
     simp only [if_true, if_neg HL0.out]
     rfl
 | true =>
  obtain ⟨ca0, ca1, ca2, ca3, ca4, ca5, ca6, ca7, ca8, ca9, ca10, ca11, ca12⟩ := cellsK13 HBN.out
  obtain ⟨cb0, cb1, cb2, cb3⟩ := cellsK4 HBX.out
  obtain ⟨M, hM⟩ : ∃ M, L ++ [st] = M := ⟨_, rfl⟩
  have HLL : Aside0 (M.length ≤ 1001) := ⟨by have := HOL.out; rw [← hM, List.length_append, List.length_singleton]; omega⟩
  have HVM := am hM
  clear hM
  go_wp2_with (first | (refine Kd.R_append (Kd.int .i64) (w0 := w) w.heap.size rfl (.tmp 13) (.tmp 17) 61 2 (.int .i64 0) 8 rfl Tryz.underlying61 info2 rfl (by decide) (by omega) _ L st [.int .i64 st] (fun _ => True) (fun _ => False) rfl rfl ?aP (fun _ hk => hk.elim) ?aF ?aO ?aB ?aS ?aL ?_; (case aP => exact rfl); (case aB => exact HB.out); (case aF => exact (fun _ _ => trivial)); (case aO => exact Kd.R_lower HO.out HSZ.out); (case aS => exact HB.out.size); (case aL => have := HOL.out; omega); intro v1 w5 ho hb hg hat; rw [HVM.out] at ho; obtain ⟨A5, c5, e5⟩ := Kd.R_slice ho; subst e5; have HBN_ := am (blk_grown HBN.out hg HNE.out.1); have HBX_ := am (blk_grown HBX.out hg HNE.out.2); have HB_ := am hb; have hrr := Kd.R_reads' ho; have HL := am hrr.2.2; have HLc := am hrr.2.1; clear hrr ho hb hg hat HB HBN HBX HO HOL HSZ HNE; skip))
  have HB := HB_
  have HBN := HBN_
  have HBX := HBX_
  clear HB_ HBN_ HBX_
  have HV : Aside0 (withinV nr xs (begs xs true st) = if agreeB xs = true then (if M = [] then true else if (sprd M).2 = true then decide ((sprd M).1 ≤ nr) else false) else false) := ⟨by rw [← HVM.out, ← HVL.out]; rfl⟩
  clear HVL HVM
  refine (gspread_walk A5 c5 M w5 HL.out (by have := HLL.out; omega)).mono ?_
  rintro e w6 ⟨rfl, rfl⟩
  go_upto_region 5 with fail
  clear ca0 ca1 ca2 ca3 ca4 ca5 ca6 ca7 ca8 ca9 ca10 ca11 ca12 cb0 cb1 cb2 cb3
  obtain ⟨ca0, ca1, ca2, ca3, ca4, ca5, ca6, ca7, ca8, ca9, ca10, ca11, ca12⟩ := cellsK13 HBN.out
  obtain ⟨cb0, cb1, cb2, cb3⟩ := cellsK4 HBX.out
  go_wp2_with fail
  clear ca0 ca1 ca2 ca3 ca4 ca5 ca6 ca7 ca8 ca9 ca10 ca11 ca12 cb0 cb1 cb2 cb3
  refine (agree_walk A c xs true st A3 c3 ag w6 (HX.out.below HB.out).r0 (HX.out.below HB.out).c0 (HX.out.below HB.out).r3 (HX.out.below HB.out).c3 (by have := HS.out.1; omega) HS.out.2).mono ?_
  rintro e w7 ⟨rfl, hb⟩
  have HLy := am hb
  have HB_ := am (below_step HB.out HLy.out)
  have HBN_ := am ((HLy.out.block w.heap.size (blk_lt HBN.out)).trans HBN.out)
  have HBX_ := am ((HLy.out.block (w.heap.size + 1) (blk_lt HBX.out)).trans HBX.out)
  clear HB HBN HBX
  have HB := HB_
  have HBN := HBN_
  have HBX := HBX_
  clear HB_ HBN_ HBX_
  clear hb
  obtain ⟨ca0, ca1, ca2, ca3, ca4, ca5, ca6, ca7, ca8, ca9, ca10, ca11, ca12⟩ := cellsK13 HBN.out
  obtain ⟨cb0, cb1, cb2, cb3⟩ := cellsK4 HBX.out
  cases hqa : agreeB xs with
  | false =>
   rw [hqa] at HV
   go_wp2_with fail
   go_ret
   refine ⟨?_, HB.out⟩
   rw [HV.out]
   rfl
  | true =>
   rw [hqa] at HV
   by_cases h0 : M = []
   ·have hl0 : ((M.length : Int) == 0) = true := by simp [h0]
    have HL0 := am h0
    clear h0
    go_wp2_with fail
    go_ret
    refine ⟨?_, HB.out⟩
    rw [HV.out]
    simp only [if_true, if_pos HL0.out]
    rfl
   ·have hl0 : ((M.length : Int) == 0) = false := by have := List.length_pos_iff.2 h0; simp; omega
    have HL0 := am h0
    clear h0
    cases hok : (sprd M).2 with
    | false =>
     rw [hok] at HV
     go_wp2_with fail
     go_ret
     refine ⟨?_, HB.out⟩
     rw [HV.out]
     simp only [if_true, if_neg HL0.out]
     rfl
    | true =>
     rw [hok] at HV
     go_wp2_with fail
     clear ca0 ca1 ca2 ca3 ca4 ca5 ca6 ca7 ca8 ca9 ca10 ca11 ca12 cb0 cb1 cb2 cb3
     refine (bounds_Near.calls AP cP P AQ cQ Q a2 a3 a4 a5 a6 a7 a8 a9 a10 a11 a12 _ w7 (HN.out.below HB.out).p (HN.out.below HB.out).cp (HN.out.below HB.out).q (HN.out.below HB.out).cq HKN.out).mono ?_
     rintro e w8 ⟨rfl, hb⟩
     have HLz := am hb
     have HB_ := am (below_step HB.out HLz.out)
     have HBN_ := am ((HLz.out.block w.heap.size (blk_lt HBN.out)).trans HBN.out)
     have HBX_ := am ((HLz.out.block (w.heap.size + 1) (blk_lt HBX.out)).trans HBX.out)
     clear HB HBN HBX
     have HB := HB_
     have HBN := HBN_
     have HBX := HBX_
     clear HB_ HBN_ HBX_
     clear hb
     go_wp2_with fail
     go_ret
     refine ⟨?_, HB.out⟩
     rw [HV.out]
     simp only [if_true, if_neg HL0.out]
     rfl
end Go.Proofs.YtbefbhghmommhaaGreatDoor.MWo
set_option linter.unusedVariables false
set_option linter.unusedSimpArgs false
set_option maxRecDepth 100000
