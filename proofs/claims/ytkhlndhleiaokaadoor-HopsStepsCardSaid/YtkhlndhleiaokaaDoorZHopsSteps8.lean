/- Texts that HopsSteps leans on, laid together by a program (wip/d/merge.py): PuNet, PuNm, PuRem, PuHopsSteps. -/
import Derived.Test.YtkhlndhleiaokaaDoorZHopsSteps6
import Derived.Test.YtkhlndhleiaokaaDoorZHopsSteps3
import Derived.Test.YtkhlndhleiaokaaDoorZHopsSteps7
set_option linter.unusedVariables false
namespace Go.Proofs.YtkhlndhleiaokaaDoor.MHo
open Go.RowKit Go.Proofs.YtkhlndhleiaokaaDoorW.PrintWords
theorem made_cases {X : Nat → Nat → Prop} (h : X 1 0 ∧ X 1 1 ∧ X 1 2 ∧ X 1 3 ∧ X 2 0 ∧ X 2 1 ∧ X 2 2 ∧ X 2 3 ∧ X 3 0 ∧ X 3 1 ∧ X 3 2 ∧ X 3 3 ∧ X 4 0 ∧ X 4 1 ∧ X 4 2 ∧ X 4 3) (q s : Nat) (h1 : 1 ≤ q) (h4 : q ≤ 4) (h3 : s ≤ 3) : X q s := by
 obtain ⟨a1, a2, a3, a4, b1, b2, b3, b4, c1, c2, c3, c4, d1, d2, d3, d4⟩ := h
 rcases (show q = 1 ∨ q = 2 ∨ q = 3 ∨ q = 4 by omega) with rfl | rfl | rfl | rfl <;> rcases (show s = 0 ∨ s = 1 ∨ s = 2 ∨ s = 3 by omega) with rfl | rfl | rfl | rfl <;> assumption
theorem right_made (a2 a3 a4 a5 a6 a7 a8 a9 a10 a11 a12 : Int) (q s : Nat) (h1 : 1 ≤ q) (h4 : q ≤ 4) (h3 : s ≤ 3) : plan_Right.f (madeNet q s).1 (madeNet q s).2 a2 a3 a4 a5 a6 a7 a8 a9 a10 a11 a12 = some true := by
 refine made_cases (X := fun q s => plan_Right.f (madeNet q s).1 (madeNet q s).2 a2 a3 a4 a5 a6 a7 a8 a9 a10 a11 a12 = some true) ⟨?_, ?_, ?_, ?_, ?_, ?_, ?_, ?_, ?_, ?_, ?_, ?_, ?_, ?_, ?_, ?_⟩ q s h1 h4 h3 <;> kernel_rfl
theorem good_made (a2 a3 a4 a5 a6 a7 a8 a9 a10 a11 a12 : Int) (q s : Nat) (h1 : 1 ≤ q) (h4 : q ≤ 4) (h3 : s ≤ 3) : drumlineref5_Good.f (madeNet q s).1 (madeNet q s).2 a2 a3 a4 a5 a6 a7 a8 a9 a10 a11 a12 0 = some true := by
 refine made_cases (X := fun q s => drumlineref5_Good.f (madeNet q s).1 (madeNet q s).2 a2 a3 a4 a5 a6 a7 a8 a9 a10 a11 a12 0 = some true) ⟨?_, ?_, ?_, ?_, ?_, ?_, ?_, ?_, ?_, ?_, ?_, ?_, ?_, ?_, ?_, ?_⟩ q s h1 h4 h3 <;> kernel_rfl
end Go.Proofs.YtkhlndhleiaokaaDoor.MHo
set_option linter.unusedVariables false
set_option linter.unusedSimpArgs false
namespace Go.Proofs.YtkhlndhleiaokaaDoor.MHo
open Go.RowKit Go.Proofs.YtkhlndhleiaokaaDoorW.PrintWords
def up (d : Int) : Int := (d + 999999) / 1000000
theorem ceil_eq {d : Int} (h0 : 0 ≤ d) (h1 : d ≤ 1000000000000) : drumlineref1_Ceil.f d 1000000 = some (up d, true) := by
 unfold drumlineref1_Ceil.f up
 rw [if_neg (by omega), if_neg (by omega), Int.tmod_eq_emod_of_nonneg h0, Int.tdiv_eq_ediv_of_nonneg h0]
 have e : wrap64 (d / 1000000) = d / 1000000 := by unfold wrap64; omega
 rw [e]
 by_cases h : d % 1000000 > 0
 ·rw [if_pos h, show wrap64 (d / 1000000 + 1) = d / 1000000 + 1 by unfold wrap64; omega, show d / 1000000 + 1 = (d + 999999) / 1000000 by omega]
 ·rw [if_neg h, show d / 1000000 = (d + 999999) / 1000000 by omega]
theorem up_eq {d : Int} (h0 : 0 ≤ d) (h1 : d ≤ 1000000000000) : drumlineref5_up.f d = some (up d) := by
 unfold drumlineref5_up.f; rw [ceil_eq h0 h1]; rfl
def Eg (dr cyc : Int) : Int := up (2 * dr * cyc) + 1
theorem dc_bd {dr cyc : Int} (h1 : 0 ≤ dr) (h2 : dr ≤ 140) (h3 : 20000 ≤ cyc) (h4 : cyc ≤ 27000) : 0 ≤ dr * cyc ∧ dr * cyc ≤ 3780000 ∧ 2 * dr * cyc = 2 * (dr * cyc) := by
 refine ⟨Int.mul_nonneg h1 (by omega), ?_, Int.mul_assoc 2 dr cyc⟩
 calc dr * cyc ≤ 140 * cyc := Int.mul_le_mul_of_nonneg_right h2 (by omega)
  _ ≤ 3780000 := by omega
theorem Eg_bd {dr cyc : Int} (h1 : 0 ≤ dr) (h2 : dr ≤ 140) (h3 : 20000 ≤ cyc) (h4 : cyc ≤ 27000) : 1 ≤ Eg dr cyc ∧ Eg dr cyc ≤ 9 := by
 have := dc_bd h1 h2 h3 h4
 unfold Eg up; omega
theorem edge_eq (P : List S60) (L : List S37) {a2 a3 a4 a5 a6 a7 a8 a9 a10 a11 a12 : Int} (h1 : 0 ≤ a6) (h2 : a6 ≤ 140) (h3 : 20000 ≤ a2) (h4 : a2 ≤ 27000) : drumlineref5_edge.f P L a2 a3 a4 a5 a6 a7 a8 a9 a10 a11 a12 = some (Eg a6 a2) := by
 have hb := dc_bd h1 h2 h3 h4
 unfold drumlineref5_edge.f
 rw [show wrap64 (2 * a6) = 2 * a6 by unfold wrap64; omega, show wrap64 (2 * a6 * a2) = 2 * a6 * a2 by unfold wrap64; omega, up_eq (by omega) (by omega)]
 simp only [Option.bind_some]
 have := Eg_bd h1 h2 h3 h4
 unfold Eg at *
 rw [show wrap64 (up (2 * a6 * a2) + 1) = up (2 * a6 * a2) + 1 by unfold wrap64; omega]
theorem out_eq (P : List S60) (L : List S37) {a2 a3 a4 a5 a6 a7 a8 a9 a10 a11 a12 : Int} (k : Nat) (h1 : 1000 ≤ a2) (h2 : a2 ≤ 1000000) (h3 : 0 ≤ a6) (h4 : a6 ≤ 500) (h5 : 0 ≤ a7) (h6 : a7 ≤ 400000) (h7 : 1 ≤ a8) (h8 : a8 ≤ 200) (h9 : 0 ≤ a9) (h10 : a9 ≤ 20) :
  drumlineref5_out.f (k + 4) P L a2 a3 a4 a5 a6 a7 a8 a9 a10 a11 a12 = some 0 := by
 unfold drumlineref5_out.f
 rw [if_neg (by omega), show decide (a2 > 1000000) = false from decide_eq_false (by omega), drumlineref5_out.j0, if_neg (by decide), if_neg (by omega), show decide (a6 > 500) = false from decide_eq_false (by omega), drumlineref5_out.j1, if_neg (by decide), if_neg (by omega), show decide (a7 > 400000) = false from decide_eq_false (by omega), drumlineref5_out.j2, if_neg (by decide), if_neg (by omega), show decide (a8 > 200) = false from decide_eq_false (by omega), drumlineref5_out.j3, if_neg (by decide), if_neg (by omega), if_neg (by omega)]
theorem Edge_eq (q s : Nat) {a2 a3 a4 a5 a6 a7 a8 a9 a10 a11 a12 : Int} (g1 : 1 ≤ q) (g4 : q ≤ 4) (g3 : s ≤ 3) (h1 : 0 ≤ a6) (h2 : a6 ≤ 140) (h3 : 20000 ≤ a2) (h4 : a2 ≤ 27000) (h5 : 0 ≤ a7) (h6 : a7 ≤ 400000) (h7 : 1 ≤ a8) (h8 : a8 ≤ 200) (h9 : 0 ≤ a9) (h10 : a9 ≤ 20) :
  drumlineref5_Edge.f 100 (madeNet q s).1 (madeNet q s).2 a2 a3 a4 a5 a6 a7 a8 a9 a10 a11 a12 = some (Eg a6 a2) := by
 unfold drumlineref5_Edge.f drumlineref5_ranged.f
 rw [good_made a2 a3 a4 a5 a6 a7 a8 a9 a10 a11 a12 q s g1 g4 g3]
 simp only [Option.bind_some, if_true]
 rw [show drumlineref5_out.f 100 (madeNet q s).1 (madeNet q s).2 a2 a3 a4 a5 a6 a7 a8 a9 a10 a11 a12 = some 0 from out_eq _ _ 96 (by omega) (by omega) h1 (by omega) h5 h6 h7 h8 h9 h10]
 simp only [Option.bind_some, beq_self_eq_true, if_true]
 rw [edge_eq _ _ h1 h2 h3 h4]
 rfl
theorem made_eq (n : Int) : ∃ (q s : Nat) (cyc dr ag lo li sp : Int), 1 ≤ q ∧ q ≤ 4 ∧ s ≤ 3 ∧ 20000 ≤ cyc ∧ cyc ≤ 27000 ∧ 0 ≤ dr ∧ dr ≤ 140 ∧ 1 ≤ ag ∧ ag ≤ 200 ∧ 0 ≤ lo ∧ lo ≤ 20 ∧
  drumlineref26_Made.f n = some ((madeNet q s).1, (madeNet q s).2, cyc, 60, 100, 3 * Eg dr cyc, dr, 300000, ag, lo, li, sp, 12) := by
 have hk : 0 ≤ (((1 + n % 65536 % 4).toNat : Int) - 1) * (n % 65536 / 1024 % 2 + 1) ∧ (((1 + n % 65536 % 4).toNat : Int) - 1) * (n % 65536 / 1024 % 2 + 1) ≤ 8 := by
  rcases (show n % 65536 / 1024 % 2 = 0 ∨ n % 65536 / 1024 % 2 = 1 by omega) with h | h <;> rw [h] <;> omega
 refine ⟨(1 + n % 65536 % 4).toNat, (n % 65536 / 4 % 4).toNat, 20000 + 1000 * (n % 65536 / 16 % 8), 20 * (n % 65536 / 128 % 8), (((1 + n % 65536 % 4).toNat : Int) - 1) * (n % 65536 / 1024 % 2 + 1) + 1 + n % 65536 / 2048 % 4, n % 65536 / 1024 % 2, ((1 + n % 65536 % 4).toNat : Int) * (n % 65536 / 1024 % 2 + 1) + 2 + n % 65536 / 8192 % 2, ((1 + n % 65536 % 4).toNat : Int) * (n % 65536 / 1024 % 2 + 1) + 2, by omega, by omega, by omega, by omega, by omega, by omega, by omega, by omega, by omega, by omega, by omega, ?_⟩
 unfold drumlineref26_Made.f
 rw [Edge_eq _ _ (by omega) (by omega) (by omega) (by omega) (by omega) (by omega) (by omega) (by omega) (by omega) (by omega) (by omega) (by omega) (by omega)]
 simp only [Option.bind_some]
 have := Eg_bd (dr := 20 * (n % 65536 / 128 % 8)) (cyc := 20000 + 1000 * (n % 65536 / 16 % 8)) (by omega) (by omega) (by omega) (by omega)
 rw [if_pos (by omega)]
end Go.Proofs.YtkhlndhleiaokaaDoor.MHo
set_option linter.unusedVariables false
set_option linter.unusedSimpArgs false
namespace Go.Proofs.YtkhlndhleiaokaaDoor.Pure
open Go.RowKit Go.Proofs.YtkhlndhleiaokaaDoor.MHo Go.Proofs.YtkhlndhleiaokaaDoorW.PrintWords Go.Proofs.YtkhlndhleiaokaaDoorW.PrintLast Go.Proofs.YtkhlndhleiaokaaDoorW.PrintMore
theorem made_len (q s : Nat) (h1 : 1 ≤ q) (h4 : q ≤ 4) (h3 : s ≤ 3) : (madeNet q s).1.length = q := by
 refine made_cases (X := fun q s => (madeNet q s).1.length = q) ⟨?_, ?_, ?_, ?_, ?_, ?_, ?_, ?_, ?_, ?_, ?_, ?_, ?_, ?_, ?_, ?_⟩ q s h1 h4 h3 <;> rfl
theorem rem_made {a : Int} (h : (Lit.int .u8 a).wf = true) (q s : Nat) (h1 : 1 ≤ q) (h4 : q ≤ 4) (h3 : s ≤ 3) : ∃ x : Nat, x < q ∧ Int.tmod (wrap64 a) ((madeNet q s).1.length : Int) = (x : Int) := by
 have hb : 0 ≤ a ∧ a ≤ 255 := by
  simp [Lit.wf, IntKind.min, IntKind.max, IntKind.signed, IntKind.bits] at h
  omega
 rw [made_len q s h1 h4 h3]
 have hw : wrap64 a = a := by unfold wrap64; omega
 rw [hw, Int.tmod_eq_emod_of_nonneg hb.1]
 have e0 := Int.emod_nonneg a (show (q : Int) ≠ 0 by omega)
 have e1 := Int.emod_lt_of_pos a (show (0 : Int) < q by omega)
 exact ⟨(a % (q : Int)).toNat, by omega, by omega⟩
end Go.Proofs.YtkhlndhleiaokaaDoor.Pure
set_option linter.unusedVariables false
set_option linter.unusedSimpArgs false
namespace Go.Proofs.YtkhlndhleiaokaaDoor.Pure
open Go.RowKit Go.Proofs.YtkhlndhleiaokaaDoor.MHo Go.Proofs.YtkhlndhleiaokaaDoorW.PrintWords Go.Proofs.YtkhlndhleiaokaaDoorW.PrintLast Go.Proofs.YtkhlndhleiaokaaDoorW.PrintMore
theorem HopsSteps : drumlinelaw6_HopsSteps.Pure := by
 intro a0 a1 a2 w0 w1 w2
 obtain ⟨q, s, cyc, dr, ag, lo, li, sp, hq1, hq4, hs3, c1, c2, d1, d2, g1, g2, l1, l2, hm⟩ := made_eq a0
 refine ⟨200, ?_⟩
 unfold drumlinelaw6_HopsSteps.f
 rw [show drumlinelaw6_alive.f 200 = some true by kernel_rfl]
 simp only [Option.bind_some, if_true]
 rw [hm]
 simp only [Option.bind_some]
 generalize 3 * Eg dr cyc = win
 obtain ⟨x, hx, ex⟩ := rem_made w1 q s hq1 hq4 hs3
 rw [ex]
 obtain ⟨y, hy, ey⟩ := rem_made w2 q s hq1 hq4 hs3
 rw [ey]
 clear hm c1 c2 d1 d2 g1 g2 l1 l2 ex ey w0 w1 w2
 rcases (show q = 1 ∨ q = 2 ∨ q = 3 ∨ q = 4 by omega) with rfl | rfl | rfl | rfl
 ·rcases (show s = 0 ∨ s = 1 ∨ s = 2 ∨ s = 3 by omega) with rfl | rfl | rfl | rfl <;> rcases (show x = 0 by omega) with rfl <;> rcases (show y = 0 by omega) with rfl <;> kernel_rfl
 ·rcases (show s = 0 ∨ s = 1 ∨ s = 2 ∨ s = 3 by omega) with rfl | rfl | rfl | rfl <;> rcases (show x = 0 ∨ x = 1 by omega) with rfl | rfl <;> rcases (show y = 0 ∨ y = 1 by omega) with rfl | rfl <;> kernel_rfl
 ·rcases (show s = 0 ∨ s = 1 ∨ s = 2 ∨ s = 3 by omega) with rfl | rfl | rfl | rfl <;> rcases (show x = 0 ∨ x = 1 ∨ x = 2 by omega) with rfl | rfl | rfl <;> rcases (show y = 0 ∨ y = 1 ∨ y = 2 by omega) with rfl | rfl | rfl <;> kernel_rfl
 ·rcases (show s = 0 ∨ s = 1 ∨ s = 2 ∨ s = 3 by omega) with rfl | rfl | rfl | rfl <;> rcases (show x = 0 ∨ x = 1 ∨ x = 2 ∨ x = 3 by omega) with rfl | rfl | rfl | rfl <;> rcases (show y = 0 ∨ y = 1 ∨ y = 2 ∨ y = 3 by omega) with rfl | rfl | rfl | rfl <;> kernel_rfl
end Go.Proofs.YtkhlndhleiaokaaDoor.Pure
