/- Texts of this claim, laid together by a program (wip/g/merge3.py): Hn, MWox82, MWox29, PuNet, PuNm, MWox33, MWox34, MWox30, MWox31, MWox32, MWox35, HIn, MWox36, MWox56, MWox78, HRa, MWox60, MWox79, PuWi, HWm, HWa, MWox54, MWox52, HWc, MWox87, MWox88, MWox89, MWox90. -/
import Derived.Test.YtbefbhghmommhaaGreatDoorZWb9
import Derived.Test.YtbefbhghmommhaaGreatDoorZWb3
import Derived.Test.YtbefbhghmommhaaGreatDoorZWb13
import Derived.Test.YtbefbhghmommhaaGreatDoorZWb11
import Derived.Test.YtbefbhghmommhaaGreatDoorZWb6
import Derived.Maps.OwnOps
import Derived.Maps.OwnSet
import Derived.Maps.Views
import Derived.Test.YtbefbhghmommhaaGreatDoorZWb5
import Derived.Test.YtbefbhghmommhaaGreatDoorZWb4
import Derived.Deep.RegionLaw
import Derived.Deep.RegionHeld3
set_option linter.unusedVariables false
namespace Go.Proofs.YtbefbhghmommhaaGreatDoor.MWo
open Go.RowKit Go.Proofs.YtbefbhghmommhaaGreatDoorW.PrintWords
theorem cnt_take {L : List S71} {p : Int} {i : Nat} (hi : i < L.length) : cnt (L.take (i + 1)) p = cnt (L.take i) p + (if (rd_T71 L i).f0 = p ∨ (rd_T71 L i).f1 = p then 2 else 0) := by
 unfold cnt
 have hr : rd_T71 L (i : Int) = L[i] := by simp [rd_T71, List.getD_eq_getElem?_getD, hi]
 rw [hr, List.take_succ_eq_append_getElem hi, List.filter_append, List.length_append]
 by_cases c : L[i].f0 = p ∨ L[i].f1 = p
 ·rw [if_pos c, List.filter_cons_of_pos (by rcases c with c | c <;> simp [c])]
  simp
  omega
 ·rw [if_neg c, List.filter_cons_of_neg (by simp only [not_or] at c; simp [c.1, c.2])]
  simp
theorem ports_from (P : List S68) (L : List S71) (a a2 a3 a4 a5 a6 a7 a8 a9 a10 a11 a12 : Int) (hL : L.length ≤ 10) : ∀ (d i k : Nat), i + d = L.length → d < k →
  dr26_ports.l0 k a (cnt (L.take i) a) i P L a2 a3 a4 a5 a6 a7 a8 a9 a10 a11 a12 = some (cnt L a)
 | 0, i, k + 1, h, _ => by
  rw [dr26_ports.l0, if_neg (by omega), List.take_of_length_le (by omega)]
 | d + 1, i, k + 1, h, hk => by
  have hi : i < L.length := by omega
  have hb := cnt_b (L.take i) a
  have hl : (L.take i).length ≤ 10 := by rw [List.length_take]; omega
  have e2 : wrap64 (cnt (L.take i) a + 2) = cnt (L.take i) a + 2 := by unfold wrap64; omega
  have e1 : wrap64 ((i : Int) + 1) = ((i + 1 : Nat) : Int) := by unfold wrap64; omega
  have ih := ports_from P L a a2 a3 a4 a5 a6 a7 a8 a9 a10 a11 a12 hL d (i + 1) k (by omega) (by omega)
  rw [cnt_take hi] at ih
  rw [dr26_ports.l0, if_pos (by omega), if_pos (by omega), e1, e2]
  by_cases c0 : (rd_T71 L i).f0 = a
  ·rw [if_pos c0]
   rw [if_pos (.inl c0)] at ih
   exact ih
  ·rw [if_neg c0]
   by_cases c1 : (rd_T71 L i).f1 = a
   ·rw [if_pos c1]
    rw [if_pos (.inr c1)] at ih
    exact ih
   ·rw [if_neg c1]
    rw [if_neg (by simp only [not_or]; exact ⟨c0, c1⟩), Int.add_zero] at ih
    exact ih
theorem ports_cnt (P : List S68) (L : List S71) (a : Int) (a2 a3 a4 a5 a6 a7 a8 a9 a10 a11 a12 : Int) (hL : L.length ≤ 10) : dr26_ports.f 100 P L a2 a3 a4 a5 a6 a7 a8 a9 a10 a11 a12 a = some (cnt L a) :=
 ports_from P L a a2 a3 a4 a5 a6 a7 a8 a9 a10 a11 a12 hL L.length 0 100 (by omega) (by omega)
end Go.Proofs.YtbefbhghmommhaaGreatDoor.MWo
namespace Go.Proofs.YtbefbhghmommhaaGreatDoor.MWo
open Go.RowKit Go.Proofs.YtbefbhghmommhaaGreatDoorW.PrintWords Go.Proofs.YtbefbhghmommhaaGreatDoorW.PrintLast Go.Proofs.YtbefbhghmommhaaGreatDoorW.PrintMore
attribute [local go_sem] mp_u32s mp_u32m mp_u8s mp_u8m max2_int min2_int max_two min_two max_three min_three max_four min_four
set_option linter.unusedVariables false
set_option linter.unusedSimpArgs false
def dr26_Made.f (a0 : Int) : Option (List S68 × List S71 × Int × Int × Int × Int × Int × Int × Int × Int × Int × Int × Int) :=
 (dr5_Edge.f (madeNet (1 + a0 % 65536 % 4).toNat (a0 % 65536 / 4 % 4).toNat).1 (madeNet (1 + a0 % 65536 % 4).toNat (a0 % 65536 / 4 % 4).toNat).2 (20000 + 1000 * (a0 % 65536 / 16 % 8)) 60 100 0 (20 * (a0 % 65536 / 128 % 8)) 300000
   ((((1 + a0 % 65536 % 4).toNat : Int) - 1) * (a0 % 65536 / 1024 % 2 + 1) + 1 + a0 % 65536 / 2048 % 4) (a0 % 65536 / 1024 % 2) (((1 + a0 % 65536 % 4).toNat : Int) * (a0 % 65536 / 1024 % 2 + 1) + 2 + a0 % 65536 / 8192 % 2) (((1 + a0 % 65536 % 4).toNat : Int) * (a0 % 65536 / 1024 % 2 + 1) + 2) 12).bind fun e =>
  if 0 ≤ e ∧ e ≤ 1000000 then
   some ((madeNet (1 + a0 % 65536 % 4).toNat (a0 % 65536 / 4 % 4).toNat).1, (madeNet (1 + a0 % 65536 % 4).toNat (a0 % 65536 / 4 % 4).toNat).2, 20000 + 1000 * (a0 % 65536 / 16 % 8), 60, 100, 3 * e, 20 * (a0 % 65536 / 128 % 8), 300000,
    (((1 + a0 % 65536 % 4).toNat : Int) - 1) * (a0 % 65536 / 1024 % 2 + 1) + 1 + a0 % 65536 / 2048 % 4, a0 % 65536 / 1024 % 2, ((1 + a0 % 65536 % 4).toNat : Int) * (a0 % 65536 / 1024 % 2 + 1) + 2 + a0 % 65536 / 8192 % 2, ((1 + a0 % 65536 % 4).toNat : Int) * (a0 % 65536 / 1024 % 2 + 1) + 2, 12)
  else none
theorem dr26_Made.calls (a0 : Int) (r1 : List S68) (r2 : List S71) (r3 r4 r5 r6 r7 r8 r9 r10 r11 r12 r13 : Int) (w : World) (h : dr26_Made.f a0 = some (r1, r2, r3, r4, r5, r6, r7, r8, r9, r10, r11, r12, r13)) :
  Calls Tryz.prog 13 #[.int .i64 a0] w fun e w' => ∃ v0 v1, e = .returned (.agg #[v0, v1, .int .i64 r3, .int .i64 r4, .int .i64 r5, .int .i64 r6, .int .i64 r7, .int .i64 r8, .int .i64 r9, .int .i64 r10, .int .i64 r11, .int .i64 r12, .int .i64 r13]) ∧ Kd.R k68 68 w' w.heap.size (fun _ => True) v0 r1 ∧ Kd.R k71 71 w' w.heap.size (fun _ => True) v1 r2 ∧ Below w.heap.size w w' := by
 unfold dr26_Made.f at h
 obtain ⟨e, he, h⟩ := Option.bind_eq_some_iff.mp h
 split at h
 ·rename_i hb
  simp only [Option.some.injEq, Prod.mk.injEq] at h
  obtain ⟨rfl, rfl, rfl, rfl, rfl, rfl, rfl, rfl, rfl, rfl, rfl, rfl, rfl⟩ := h
  exact made_walk a0 (a0 % 65536) _ _ _ _ _ (1 + a0 % 65536 % 4).toNat (a0 % 65536 / 4 % 4).toNat w rfl (by omega) (by omega) rfl rfl rfl rfl rfl e he hb.1 hb.2 ports_cnt
 ·cases h
end Go.Proofs.YtbefbhghmommhaaGreatDoor.MWo

set_option linter.unusedVariables false
namespace Go.Proofs.YtbefbhghmommhaaGreatDoor.MWo
open Go.RowKit Go.Proofs.YtbefbhghmommhaaGreatDoorW.PrintWords
theorem made_cases {X : Nat → Nat → Prop} (h : X 1 0 ∧ X 1 1 ∧ X 1 2 ∧ X 1 3 ∧ X 2 0 ∧ X 2 1 ∧ X 2 2 ∧ X 2 3 ∧ X 3 0 ∧ X 3 1 ∧ X 3 2 ∧ X 3 3 ∧ X 4 0 ∧ X 4 1 ∧ X 4 2 ∧ X 4 3) (q s : Nat) (h1 : 1 ≤ q) (h4 : q ≤ 4) (h3 : s ≤ 3) : X q s := by
 obtain ⟨a1, a2, a3, a4, b1, b2, b3, b4, c1, c2, c3, c4, d1, d2, d3, d4⟩ := h
 rcases (show q = 1 ∨ q = 2 ∨ q = 3 ∨ q = 4 by omega) with rfl | rfl | rfl | rfl <;> rcases (show s = 0 ∨ s = 1 ∨ s = 2 ∨ s = 3 by omega) with rfl | rfl | rfl | rfl <;> assumption
theorem good_made (a2 a3 a4 a5 a6 a7 a8 a9 a10 a11 a12 : Int) (q s : Nat) (h1 : 1 ≤ q) (h4 : q ≤ 4) (h3 : s ≤ 3) : dr5_Good.f (madeNet q s).1 (madeNet q s).2 a2 a3 a4 a5 a6 a7 a8 a9 a10 a11 a12 0 = some true := by
 refine made_cases (X := fun q s => dr5_Good.f (madeNet q s).1 (madeNet q s).2 a2 a3 a4 a5 a6 a7 a8 a9 a10 a11 a12 0 = some true) ⟨?_, ?_, ?_, ?_, ?_, ?_, ?_, ?_, ?_, ?_, ?_, ?_, ?_, ?_, ?_, ?_⟩ q s h1 h4 h3 <;> kernel_rfl
end Go.Proofs.YtbefbhghmommhaaGreatDoor.MWo
set_option linter.unusedVariables false
set_option linter.unusedSimpArgs false
namespace Go.Proofs.YtbefbhghmommhaaGreatDoor.MWo
open Go.RowKit Go.Proofs.YtbefbhghmommhaaGreatDoorW.PrintWords
def up (d : Int) : Int := (d + 999999) / 1000000
theorem ceil_eq {d : Int} (h0 : 0 ≤ d) (h1 : d ≤ 1000000000000) : dr1_Ceil.f d 1000000 = some (up d, true) := by
 unfold dr1_Ceil.f up
 rw [if_neg (by omega), if_neg (by omega), Int.tmod_eq_emod_of_nonneg h0, Int.tdiv_eq_ediv_of_nonneg h0]
 have e : wrap64 (d / 1000000) = d / 1000000 := by unfold wrap64; omega
 rw [e]
 by_cases h : d % 1000000 > 0
 ·rw [if_pos h, show wrap64 (d / 1000000 + 1) = d / 1000000 + 1 by unfold wrap64; omega, show d / 1000000 + 1 = (d + 999999) / 1000000 by omega]
 ·rw [if_neg h, show d / 1000000 = (d + 999999) / 1000000 by omega]
theorem up_eq {d : Int} (h0 : 0 ≤ d) (h1 : d ≤ 1000000000000) : dr5_up.f d = some (up d) := by
 unfold dr5_up.f; rw [ceil_eq h0 h1]; rfl
def Eg (dr cyc : Int) : Int := up (2 * dr * cyc) + 1
theorem dc_bd {dr cyc : Int} (h1 : 0 ≤ dr) (h2 : dr ≤ 140) (h3 : 20000 ≤ cyc) (h4 : cyc ≤ 27000) : 0 ≤ dr * cyc ∧ dr * cyc ≤ 3780000 ∧ 2 * dr * cyc = 2 * (dr * cyc) := by
 refine ⟨Int.mul_nonneg h1 (by omega), ?_, Int.mul_assoc 2 dr cyc⟩
 calc dr * cyc ≤ 140 * cyc := Int.mul_le_mul_of_nonneg_right h2 (by omega)
  _ ≤ 3780000 := by omega
theorem Eg_bd {dr cyc : Int} (h1 : 0 ≤ dr) (h2 : dr ≤ 140) (h3 : 20000 ≤ cyc) (h4 : cyc ≤ 27000) : 1 ≤ Eg dr cyc ∧ Eg dr cyc ≤ 9 := by
 have := dc_bd h1 h2 h3 h4
 unfold Eg up; omega
theorem edge_eq (P : List S68) (L : List S71) {a2 a3 a4 a5 a6 a7 a8 a9 a10 a11 a12 : Int} (h1 : 0 ≤ a6) (h2 : a6 ≤ 140) (h3 : 20000 ≤ a2) (h4 : a2 ≤ 27000) : dr5_edge.f P L a2 a3 a4 a5 a6 a7 a8 a9 a10 a11 a12 = some (Eg a6 a2) := by
 have hb := dc_bd h1 h2 h3 h4
 unfold dr5_edge.f
 rw [show wrap64 (2 * a6) = 2 * a6 by unfold wrap64; omega, show wrap64 (2 * a6 * a2) = 2 * a6 * a2 by unfold wrap64; omega, up_eq (by omega) (by omega)]
 simp only [Option.bind_some]
 have := Eg_bd h1 h2 h3 h4
 unfold Eg at *
 rw [show wrap64 (up (2 * a6 * a2) + 1) = up (2 * a6 * a2) + 1 by unfold wrap64; omega]
theorem out_eq (P : List S68) (L : List S71) {a2 a3 a4 a5 a6 a7 a8 a9 a10 a11 a12 : Int} (k : Nat) (h1 : 1000 ≤ a2) (h2 : a2 ≤ 1000000) (h3 : 0 ≤ a6) (h4 : a6 ≤ 500) (h5 : 0 ≤ a7) (h6 : a7 ≤ 400000) (h7 : 1 ≤ a8) (h8 : a8 ≤ 200) (h9 : 0 ≤ a9) (h10 : a9 ≤ 20) :
  dr5_out.f P L a2 a3 a4 a5 a6 a7 a8 a9 a10 a11 a12 = some 0 := if_pos ⟨h1, h2, h3, h4, h5, h6, h7, h8, h9, h10⟩
theorem Edge_eq (q s : Nat) {a2 a3 a4 a5 a6 a7 a8 a9 a10 a11 a12 : Int} (g1 : 1 ≤ q) (g4 : q ≤ 4) (g3 : s ≤ 3) (h1 : 0 ≤ a6) (h2 : a6 ≤ 140) (h3 : 20000 ≤ a2) (h4 : a2 ≤ 27000) (h5 : 0 ≤ a7) (h6 : a7 ≤ 400000) (h7 : 1 ≤ a8) (h8 : a8 ≤ 200) (h9 : 0 ≤ a9) (h10 : a9 ≤ 20) :
  dr5_Edge.f (madeNet q s).1 (madeNet q s).2 a2 a3 a4 a5 a6 a7 a8 a9 a10 a11 a12 = some (Eg a6 a2) := by
 unfold dr5_Edge.f dr5_ranged.f
 rw [good_made a2 a3 a4 a5 a6 a7 a8 a9 a10 a11 a12 q s g1 g4 g3]
 simp only [Option.bind_some, if_true]
 rw [show dr5_out.f (madeNet q s).1 (madeNet q s).2 a2 a3 a4 a5 a6 a7 a8 a9 a10 a11 a12 = some 0 from out_eq _ _ 96 (by omega) (by omega) h1 (by omega) h5 h6 h7 h8 h9 h10]
 simp only [Option.bind_some, beq_self_eq_true, if_true]
 rw [edge_eq _ _ h1 h2 h3 h4]
 rfl
end Go.Proofs.YtbefbhghmommhaaGreatDoor.MWo






set_option linter.unusedVariables false
set_option linter.unusedSimpArgs false
set_option maxRecDepth 100000



set_option linter.unusedVariables false
set_option linter.unusedSimpArgs false
set_option maxRecDepth 100000


set_option linter.unusedVariables false
set_option linter.unusedSimpArgs false
set_option maxRecDepth 100000
set_option linter.unusedVariables false
set_option linter.unusedSimpArgs false
set_option maxRecDepth 100000
namespace Go.Proofs.YtbefbhghmommhaaGreatDoor.MWo
open Go.RowKit Go.Maps Go.Proofs.YtbefbhghmommhaaGreatDoorW.PrintWords Go.Proofs.YtbefbhghmommhaaGreatDoorW.PrintLast Go.Proofs.YtbefbhghmommhaaGreatDoorW.PrintMore
theorem keyI : Keyed Tryz.prog 3 := int_keyed Tryz.underlying3
theorem zeroL (w : World) : (zeroValue 2).run Tryz.prog w = .ok (.int .i64 0) w := by kernel_rfl
def Mp (w : World) (b n : Nat) (g : Int → Int) : Prop :=
 ∃ D : DataW Unit, w.ownsMap Tryz.prog 3 (plainElem Tryz.prog 2) b n D ∧ ∀ q, (Lit.int .i64 q).wf = true → D.atKey (.int .i64 q) (.lit (.int .i64 0)) = .lit (.int .i64 (g q))
def upd (g : Int → Int) (k v : Int) : Int → Int := fun q => if q = k then v else g q
theorem Mp.made (w : World) : Mp (w.alloc (.map #[] 0)) w.heap.size 0 (fun _ => 0) := ⟨.map [], World.ownsMap_made _ _ _ _, fun _ _ => rfl⟩
theorem Mp.look {w : World} {b n : Nat} {g : Int → Int} (h : Mp w b n g) {q : Int} (hq : (Lit.int .i64 q).wf = true) :
  (Instr.lookup 83 (.map (some b)) (.int .i64 q) false).run Tryz.prog w = .ok (.int .i64 (g q)) w := by
 obtain ⟨D, hD, hg⟩ := h
 obtain ⟨c, hrun, hat, _⟩ := hD.lookup_int keyI Tryz.underlying83 Tryz.underlying2 (zeroL _) (keyOf_int_mk Tryz.underlying3 hq)
 have := hat.symm.trans (hg q hq)
 injection this with e
 injection e with _ e2
 rw [hrun, e2]
theorem Mp.put {w : World} {b n : Nat} {g : Int → Int} (h : Mp w b n g) (hn : n < maxLen) {q v : Int} (hq : (Lit.int .i64 q).wf = true) (hv : (Lit.int .i64 v).wf = true) :
  ∃ w', (Instr.mapUpdate 83 (.map (some b)) (.int .i64 q) (.int .i64 v)).run Tryz.prog w = .ok () w' ∧ Mp w' b (n + 1) (upd g q v) ∧ w.grownBy w' (some b) := by
 obtain ⟨D, hD, hg⟩ := h
 obtain ⟨w', hrun, h1, h2⟩ := hD.update keyI Tryz.underlying83 hn (keyOf_int_mk Tryz.underlying3 hq) (plainElem_int (H := Unit) Tryz.underlying2 hv)
 refine ⟨w', hrun, ⟨_, h1, fun k hk => ?_⟩, h2⟩
 unfold upd
 by_cases e : k = q
 ·subst e
  rw [if_pos rfl]
  exact atKey_put_same hD.isMap (show WideAt.IsKeyLit (.int .i64 k) from trivial) _ _
 ·rw [if_neg e, atKey_put_other (by intro h; injection h with _ h; exact e h)]
  exact hg k hk
theorem Mp.grown {w w1 : World} {b n : Nat} {g : Int → Int} {row : Option Nat} (h : Mp w b n g) (hg : w.grownBy w1 row) (hne : some b ≠ row) : Mp w1 b n g := by
 obtain ⟨D, hD, h2⟩ := h
 exact ⟨D, hD.kept hg hne, h2⟩
theorem Mp.lt {w : World} {b n : Nat} {g : Int → Int} (h : Mp w b n g) : b < w.heap.size := by
 obtain ⟨D, hD, _⟩ := h
 exact hD.lt
structure S52 where
 f0 : Int
 f1 : Int
 f2 : Bool
 f3 : List Int
def z52 : S52 := ⟨0, 0, false, []⟩
def rd_T52 (xs : List S52) (i : Int) : S52 := xs.getD i.toNat z52
def ordM : (Int → Int) → List S52 → Bool
 | _, [] => true
 | g, x :: t => if x.f1 ≤ g x.f0 then false else if (x.f2 != (wrap64 (x.f1 - 1) != g x.f0)) = true then false else ordM (upd g x.f0 x.f1) t
def lgk : Kd S52 where
 sz := 4
 E := []
 K := fun _ x cs => ∃ A n c, cs = [.int .i64 x.f0, .int .i64 x.f1, .bool x.f2, .slice A n c]
 M := fun _ _ _ x cs => ∃ A n c, cs = [.int .i64 x.f0, .int .i64 x.f1, .bool x.f2, .slice A n c]
 K_len := by rintro w x cs ⟨_, _, _, rfl⟩; rfl
 K_one := by rintro w x cs ⟨_, _, _, rfl⟩ u hu; simp at hu; rcases hu with rfl | rfl | rfl | rfl <;> rfl
 K_below := fun _ h => h
 K_of_M := fun h => h
 M_mono := fun _ h => h
 M_bound := fun h => h
 M_move := fun _ h => h
 M_lower := fun _ h => h
theorem at_lgk {w : World} {A : Option Addr} {n : Nat} {xs : List S52} (h : Kd.C lgk w A n xs) (i : Nat) (h1 : i < n) : ∃ ad A3 n3 c3, A = some ad ∧ w.cell? (ad.add (i * 4)) = some (.int .i64 (rd_T52 xs i).f0) ∧ w.cell? ⟨(ad.add (i * 4)).block, (ad.add (i * 4)).off + 1, none⟩ = some (.int .i64 (rd_T52 xs i).f1) ∧ w.cell? ⟨(ad.add (i * 4)).block, (ad.add (i * 4)).off + 2, none⟩ = some (.bool (rd_T52 xs i).f2) ∧ w.cell? ⟨(ad.add (i * 4)).block, (ad.add (i * 4)).off + 3, none⟩ = some (.slice A3 n3 c3) := by
 obtain ⟨ad, c, e, _, hK, hc0⟩ := Kd.C_get h z52 (i : Int) (by omega) (by omega)
 simp only [Int.toNat_natCast] at hc0
 have hc : ∀ j u, c[j]? = some u → w.cell? (ad.add (i * 4 + j)) = some u := hc0
 obtain ⟨A3, n3, c3, rfl⟩ := hK
 exact ⟨ad, A3, n3, c3, e, hc 0 _ rfl, by rw [← add_field _ _ 1 (by omega)]; exact hc 1 _ rfl, by rw [← add_field _ _ 2 (by omega)]; exact hc 2 _ rfl, by rw [← add_field _ _ 3 (by omega)]; exact hc 3 _ rfl⟩
set_option maxHeartbeats 4000000 in
theorem order_walk (A : Option Addr) (c : Nat) (l : List S52) (w : World) (hr : Kd.C lgk w A l.length l) (hl : l.length ≤ 100000) (hwf : ∀ x ∈ l, (Lit.int .i64 x.f0).wf = true ∧ (Lit.int .i64 x.f1).wf = true) :
  Calls Tryz.prog 22 #[.slice A l.length c] w fun e w' => e = .returned (.bool (ordM (fun _ => 0) l)) ∧ Below w.heap.size w w' := by
 have HR := am hr
 have HW := am hwf
 have hmm := @run_makeMap Tryz.prog
 obtain ⟨Z, hZ⟩ : ∃ Z, ordM (fun _ => 0) l = Z := ⟨_, rfl⟩
 rw [hZ]
 have HZ := am hZ
 clear hr hwf hZ
 go_enter Tryz.func22, Tryz.ntmps22
 go_wp2_with fail
 go_loopg [9] (l.length + 1) (fun kq v9 wr => ∃ (k : Nat) (g : Int → Int), Aside0 (k ≤ l.length ∧ kq = l.length + 1 - k) ∧ v9 = .int .i64 k ∧ Aside0 (Mp wr w.heap.size k g) ∧ Aside0 (Below w.heap.size w wr) ∧ Aside0 (ordM g (l.drop k) = Z))
 case atStart => exact ⟨0, fun _ => 0, ⟨Nat.zero_le _, rfl⟩, rfl, ⟨Mp.made w⟩, ⟨below_alloc (Below.refl _ _) _⟩, HZ⟩
 case round =>
  clear HZ
  obtain ⟨k, g, HK, rfl, HM, HB, HZ⟩ := hrel
  by_cases hk : k < l.length
  ·have hd : decide ((k : Int) < (l.length : Int)) = true := decide_eq_true (by omega)
   obtain ⟨ad, A3, n3, c3, e3, h0, h1, h2, h3⟩ := at_lgk (Kd.C_below HR.out HB.out) k hk
   cases e3
   have hx : rd_T52 l (k : Int) = l[k] := by simp [rd_T52, hk]
   have hdr : l.drop k = l[k] :: l.drop (k + 1) := by rw [List.drop_eq_getElem_cons hk]
   have hw := HW.out l[k] (List.getElem_mem hk)
   rw [hx] at h0 h1 h2
   have HZ2 : Aside0 (ordM g (l[k] :: l.drop (k + 1)) = Z) := ⟨by rw [← hdr]; exact HZ.out⟩
   have p0_ := eq_true (show (0 : Int) ≤ (k : Int) by omega)
   have p0c : (k : Int) < (l.length : Int) := by omega
   clear HZ hdr hx
   generalize l[k] = x at *
   go_upto_region 5 with fail
   have kb := below_alloc (Below.refl wr.heap.size wr) (.cells #[.int .i64 x.f0, .int .i64 x.f1, .bool x.f2, .slice A3 n3 c3] 52)
   have HX := am (heap_alloc_new wr (.cells #[.int .i64 x.f0, .int .i64 x.f1, .bool x.f2, .slice A3 n3 c3] 52))
   have HM1 := am (HM.out.grown (World.grownBy_alloc wr (.cells #[.int .i64 x.f0, .int .i64 x.f1, .bool x.f2, .slice A3 n3 c3] 52) none) (by simp))
   have HB1 := am (below_step HB.out kb)
   have HLM := am HM.out.lt
   clear kb h0 h1 h2 h3 HM HB
   generalize wr.alloc (.cells #[.int .i64 x.f0, .int .i64 x.f1, .bool x.f2, .slice A3 n3 c3] 52) = w1 at *
   generalize wr.heap.size = xb at *
   have c1 : w1.cell? ⟨xb, 1, none⟩ = some (.int .i64 x.f1) := (blk_cell HX.out 1).trans rfl
   have c0 : w1.cell? ⟨xb, 0, none⟩ = some (.int .i64 x.f0) := (blk_cell HX.out 0).trans rfl
   have c2 : w1.cell? ⟨xb, 2, none⟩ = some (.bool x.f2) := (blk_cell HX.out 2).trans rfl
   have hlk := HM1.out.look hw.1
   by_cases hle : x.f1 ≤ g x.f0
   ·have hd1 : decide (x.f1 ≤ g x.f0) = true := decide_eq_true hle
    have HE : Aside0 (Z = false) := ⟨by rw [← HZ2.out]; exact if_pos hle⟩
    go_wp2_with fail
    go_ret
    rw [HE.out]
    exact ⟨rfl, HB1.out⟩
   ·have hd1 : decide (x.f1 ≤ g x.f0) = false := decide_eq_false hle
    by_cases hg : (x.f2 != (wrap64 (x.f1 - 1) != g x.f0)) = true
    ·have HE : Aside0 (Z = false) := ⟨by rw [← HZ2.out]; exact (if_neg hle).trans (if_pos hg)⟩
     have hg2 : (!x.f2 == (wrap64 (x.f1 - 1) != g x.f0)) = true := by rw [← hg]; cases x.f2 <;> cases (wrap64 (x.f1 - 1) != g x.f0) <;> rfl
     go_wp2_with fail
     go_ret
     rw [HE.out]
     exact ⟨rfl, HB1.out⟩
    ·have hg2 : (!x.f2 == (wrap64 (x.f1 - 1) != g x.f0)) = false := by
      have hg1 : (x.f2 != (wrap64 (x.f1 - 1) != g x.f0)) = false := by simpa using hg
      rw [← hg1]; cases x.f2 <;> cases (wrap64 (x.f1 - 1) != g x.f0) <;> rfl
     have hg0 : (x.f2 != (wrap64 (x.f1 - 1) != g x.f0)) = false := by simpa using hg
     have HZ3 : Aside0 (ordM (upd g x.f0 x.f1) (l.drop (k + 1)) = Z) := ⟨by rw [← HZ2.out]; exact ((if_neg hle).trans (if_neg hg)).symm⟩
     obtain ⟨w2, hmu, hM2, hg2⟩ := HM1.out.put (by have := HK.out; unfold maxLen; omega) hw.1 hw.2
     have HM2 := am hM2
     have HB2 := am (HB1.out.grown hg2 HB1.out.size (fun j hj => by cases hj; exact Nat.le_refl _))
     clear hM2 hg2 HM1
     cases gk with
     | zero => exact absurd HK.out (by omega)
     | succ k1 =>
     go_wp2_with fail
     go_roundg k1
     case measure => have := HK.out; omega
     case rel => exact ⟨k + 1, _, ⟨by omega, by have := HK.out; omega⟩, rfl, HM2, HB2, HZ3⟩
  ·have hd : decide ((k : Int) < (l.length : Int)) = false := decide_eq_false (by omega)
   have HE : Aside0 (Z = true) := ⟨by rw [← HZ.out, List.drop_eq_nil_iff.2 (by omega)]; rfl⟩
   go_wp2_with fail
   go_ret
   rw [HE.out]
   exact ⟨rfl, HB.out⟩
end Go.Proofs.YtbefbhghmommhaaGreatDoor.MWo
set_option linter.unusedVariables false
set_option linter.unusedSimpArgs false
set_option maxRecDepth 100000
namespace Go.Proofs.YtbefbhghmommhaaGreatDoor.MWo
open Go.RowKit Go.Maps Go.Proofs.YtbefbhghmommhaaGreatDoorW.PrintWords Go.Proofs.YtbefbhghmommhaaGreatDoorW.PrintLast Go.Proofs.YtbefbhghmommhaaGreatDoorW.PrintMore
theorem gspread_nil (A : Option Addr) (c : Nat) (w : World) : Calls Tryz.prog 32 #[.slice A 0 c] w fun e w' => e = .returned (.tuple #[.int .i64 0, .bool false]) ∧ w' = w := by
 go_enter Tryz.func32, Tryz.ntmps32
 go_wp2
 go_ret2
 exact ⟨rfl, rfl⟩
theorem index_nil (A : Option Addr) (c : Nat) (v : Value) (w : World) : Calls Tryz.prog 53 #[.slice A 0 c, v] w fun e w' => e = .returned (.int .i64 (-1)) ∧ w' = w := by
 go_enter Tryz.func53, Tryz.ntmps53
 go_wp2
 refine wp_loop_rounds 1 ?_
 rw [rounds_succ]
 go_wp2
 go_ret
 exact ⟨rfl, rfl⟩
theorem contains_nil (A : Option Addr) (c : Nat) (v : Value) (w : World) : Calls Tryz.prog 26 #[.slice A 0 c, v] w fun e w' => e = .returned (.bool false) ∧ w' = w := by
 go_enter Tryz.func26, Tryz.ntmps26
 go_wp2_with fail
 refine (index_nil A c v w).mono ?_
 rintro e w1 ⟨rfl, rfl⟩
 go_wp2_with fail
 go_ret
 exact ⟨rfl, rfl⟩
theorem spread_nil (w : World) : Calls Tryz.prog 16 #[.agg #[.slice none 0 0, .bool false, .int .i64 0, .slice none 0 0]] w fun e w' => e = .returned (.tuple #[.int .i64 0, .bool false]) ∧ Below w.heap.size w w' := by
 go_enter Tryz.func16, Tryz.ntmps16
 go_wp2_with fail
 have HB := am (below_alloc (Below.refl w.heap.size w) (.cells #[.slice none 0 0, .bool false, .int .i64 0, .slice none 0 0] 37))
 refine (watch_starts.calls 9 none 0 [] false 0 none 0 [] [] _ (Kd.C_nil _ _) (Nat.le_refl _) (Kd.C_nil _ _) (Nat.le_refl _) rfl).mono ?_
 rintro e w1 ⟨v, rfl, ho, hb⟩
 obtain ⟨A, c, rfl⟩ := Kd.R_slice ho
 have HB1 := am (below_step HB.out hb)
 clear ho hb
 go_wp2_with fail
 refine (gspread_nil A c w1).mono ?_
 rintro e w2 ⟨rfl, rfl⟩
 go_wp2_with fail
 go_ret2
 exact ⟨rfl, HB1.out⟩
theorem agree_nil (w : World) : Calls Tryz.prog 20 #[.agg #[.slice none 0 0, .bool false, .int .i64 0, .slice none 0 0]] w fun e w' => e = .returned (.bool true) ∧ Below w.heap.size w w' := by
 go_enter Tryz.func20, Tryz.ntmps20
 go_wp2_with fail
 have HB := am (below_alloc (Below.refl w.heap.size w) (.cells #[.slice none 0 0, .bool false, .int .i64 0, .slice none 0 0] 37))
 refine (watch_synced.calls 9 (fun _ => False) none 0 [] false 0 none 0 [] [] _ (Kd.V_nil _ _ _ _ _) (Kd.C_nil _ _) (Nat.le_refl _) rfl).mono ?_
 rintro e w1 ⟨v, rfl, ho, hb⟩
 obtain ⟨A, c, rfl⟩ := Kd.N_slice ho
 have HB1 := am (below_step HB.out hb)
 clear ho hb
 go_wp2_with fail
 have HB2 := am (below_alloc HB1.out (.cells #[.slice A ([] : List S55).length c] 32))
 refine (contains_nil A c _ _).mono ?_
 rintro e w2 ⟨rfl, rfl⟩
 go_wp2_with fail
 go_ret
 exact ⟨rfl, HB2.out⟩
theorem base_nil (w : World) : Calls Tryz.prog 9 #[.agg #[.slice none 0 0, .slice none 0 0, .int .i64 0, .int .i64 0, .int .i64 0, .int .i64 0, .int .i64 0, .int .i64 0, .int .i64 0, .int .i64 0, .int .i64 0, .int .i64 0, .int .i64 0], .slice none 0 0] w fun e w' => e = .returned (.tuple #[.int .i64 (-1), .bool false]) ∧ Below w.heap.size w w' := by
 go_enter Tryz.func9, Tryz.ntmps9
 go_wp2_with fail
 refine wp_loop_rounds 1 ?_
 rw [rounds_succ]
 go_wp2_with fail
 go_ret2
 exact ⟨rfl, by repeat (first | exact Below.refl _ _ | apply below_alloc)⟩
theorem one_got (w : World) (a b : Int) (g : Bool) : Kd.C lgk (w.alloc (.cells #[.int .i64 a, .int .i64 b, .bool g, .slice none 0 0] 52)) (some ⟨w.heap.size, 0, none⟩) [(⟨a, b, g, []⟩ : S52)].length [⟨a, b, g, []⟩] := by
 have hb := heap_alloc_new w (.cells #[.int .i64 a, .int .i64 b, .bool g, .slice none 0 0] 52)
 refine ⟨rfl, (show (1 : Nat) ≤ 9223372036854775807 by decide), fun _ => ⟨_, rfl, fun j p hp => ?_⟩⟩
 cases j with
 | zero =>
  simp only [List.getElem?_cons_zero, Option.some.injEq] at hp
  subst hp
  refine ⟨[.int .i64 a, .int .i64 b, .bool g, .slice none 0 0], rfl, ⟨none, 0, 0, rfl⟩, fun i u hu => ?_⟩
  have e : (⟨w.heap.size, 0, none⟩ : Addr).add (0 * lgk.sz + i) = ⟨w.heap.size, i, none⟩ := by rw [Nat.zero_mul, Nat.zero_add, add_at, Nat.zero_add]
  rw [e]
  exact (blk_cell hb i).trans (by rw [← hu]; simp)
 | succ j => simp at hp
theorem alive_walk (w : World) : Calls Tryz.prog 7 #[] w fun e w' => e = .returned (.bool true) ∧ Below w.heap.size w w' := by
 go_enter Tryz.func7, Tryz.ntmps7
 go_wp2_with fail
 refine (spread_nil _).mono ?_
 rintro e w1 ⟨rfl, hb⟩
 have HB1 := am hb
 clear hb
 go_wp2_with fail
 refine (base_nil _).mono ?_
 rintro e w2 ⟨rfl, hb⟩
 have HB2 := am (below_step HB1.out hb)
 clear hb
 go_wp2_with fail
 refine (agree_nil _).mono ?_
 rintro e w3 ⟨rfl, hb⟩
 have HB3 := am (below_step HB2.out hb)
 clear hb
 go_wp2_with fail
 have HA4 := am (below_alloc HB3.out (.cells #[.int .i64 1, .int .i64 2, .bool true, .slice none 0 0] 52))
 refine (order_walk (some ⟨w3.heap.size, 0, none⟩) 1 [⟨1, 2, true, []⟩] _ (one_got w3 1 2 true) (by decide) (by simp; decide)).mono ?_
 rintro e w4 ⟨rfl, hb⟩
 rw [show ordM (fun _ => 0) [⟨1, 2, true, []⟩] = true by simp [ordM, wrap64]]
 have HB4 := am (below_step HA4.out hb)
 clear hb
 go_wp2_with fail
 have HA5 := am (below_alloc HB4.out (.cells #[.int .i64 1, .int .i64 2, .bool false, .slice none 0 0] 52))
 refine (order_walk (some ⟨w4.heap.size, 0, none⟩) 1 [⟨1, 2, false, []⟩] _ (one_got w4 1 2 false) (by decide) (by simp; decide)).mono ?_
 rintro e w5 ⟨rfl, hb⟩
 have HB5 := am (below_step HA5.out hb)
 clear hb
 rw [show ordM (fun _ => 0) [⟨1, 2, false, []⟩] = false by simp [ordM, wrap64]]
 go_wp2_with fail
 go_ret
 exact ⟨rfl, HB5.out⟩
end Go.Proofs.YtbefbhghmommhaaGreatDoor.MWo


set_option linter.unusedVariables false
set_option linter.unusedSimpArgs false
set_option maxRecDepth 100000
namespace Go.Proofs.YtbefbhghmommhaaGreatDoor.MWo
open Go.RowKit Go.Proofs.YtbefbhghmommhaaGreatDoorW.PrintWords Go.Proofs.YtbefbhghmommhaaGreatDoorW.PrintLast Go.Proofs.YtbefbhghmommhaaGreatDoorW.PrintMore Go.Proofs.YtbefbhghmommhaaGreatDoor.Evl
structure CellAt (w : World) (x : S37) (A : Option Addr) (c : Nat) (A3 : Option Addr) (c3 : Nat) : Prop where
 r0 : Kd.C k55 w A x.f0.length x.f0
 c0 : x.f0.length ≤ c
 r3 : Kd.C (Kd.int .i64) w A3 x.f1.f2.length x.f1.f2
 c3 : x.f1.f2.length ≤ c3
theorem CellAt.below {w w1 : World} {x : S37} {A : Option Addr} {c : Nat} {A3 : Option Addr} {c3 : Nat} (h : CellAt w x A c A3 c3) (k : Below w.heap.size w w1) : CellAt w1 x A c A3 c3 :=
 ⟨Kd.C_below h.r0 k, h.c0, Kd.C_below h.r3 k, h.c3⟩
theorem two_cells {w1 : World} {g : Nat} {x y : S37} {A B A3 B3 : Option Addr} {c d c3 d3 : Nat} (hx : CellAt w1 x A c A3 c3) (hy : CellAt w1 y B d B3 d3)
  (hb : w1.heap[g]? = some (.cells #[.slice A x.f0.length c, .bool x.f1.f0, .int .i64 x.f1.f1, .slice A3 x.f1.f2.length c3, .slice B y.f0.length d, .bool y.f1.f0, .int .i64 y.f1.f1, .slice B3 y.f1.f2.length d3] 37 (0, 0))) :
  Kd.C k37 w1 (some ⟨g, 0, none⟩) [x, y].length [x, y] := by
 refine ⟨rfl, (show (2 : Nat) ≤ 9223372036854775807 by decide), fun _ => ⟨_, rfl, fun j p hp => ?_⟩⟩
 match j, hp with
 | 0, hp =>
  simp only [List.getElem?_cons_zero, Option.some.injEq] at hp
  subst hp
  refine ⟨[.slice A x.f0.length c, .bool x.f1.f0, .int .i64 x.f1.f1, .slice A3 x.f1.f2.length c3], rfl, k37_mk w1 x hx.c0 hx.r0 hx.c3 hx.r3, fun i u hu => ?_⟩
  have e : (⟨g, 0, none⟩ : Addr).add (0 * k37.sz + i) = ⟨g, i, none⟩ := by rw [Nat.zero_mul, Nat.zero_add, add_at, Nat.zero_add]
  rw [e]
  refine (blk_cell hb i).trans ?_
  match i, hu with
  | 0, hu | 1, hu | 2, hu | 3, hu => simpa using hu
  | i + 4, hu => simp at hu
 | 1, hp =>
  simp only [List.getElem?_cons_succ, List.getElem?_cons_zero, Option.some.injEq] at hp
  subst hp
  refine ⟨[.slice B y.f0.length d, .bool y.f1.f0, .int .i64 y.f1.f1, .slice B3 y.f1.f2.length d3], rfl, k37_mk w1 y hy.c0 hy.r0 hy.c3 hy.r3, fun i u hu => ?_⟩
  have hz : k37.sz = 4 := rfl
  have e : (⟨g, 0, none⟩ : Addr).add (1 * k37.sz + i) = ⟨g, 4 + i, none⟩ := by rw [hz, Nat.one_mul, add_at, Nat.zero_add]
  rw [e]
  refine (blk_cell hb (4 + i)).trans ?_
  match i, hu with
  | 0, hu | 1, hu | 2, hu | 3, hu => simpa using hu
  | i + 4, hu => simp at hu
 | j + 2, hp => simp at hp
abbrev cellV (x : S37) (A : Option Addr) (c : Nat) (A3 : Option Addr) (c3 : Nat) : Array Value := #[.slice A x.f0.length c, .bool x.f1.f0, .int .i64 x.f1.f1, .slice A3 x.f1.f2.length c3]
structure NetAt (w : World) (P : List S68) (AP : Option Addr) (cP : Nat) (Q : List S71) (AQ : Option Addr) (cQ : Nat) : Prop where
 p : Kd.C k68 w AP P.length P
 cp : P.length ≤ cP
 q : Kd.C k71 w AQ Q.length Q
 cq : Q.length ≤ cQ
theorem NetAt.below {w w1 : World} {P : List S68} {AP : Option Addr} {cP : Nat} {Q : List S71} {AQ : Option Addr} {cQ : Nat} (h : NetAt w P AP cP Q AQ cQ) (k : Below w.heap.size w w1) : NetAt w1 P AP cP Q AQ cQ :=
 ⟨Kd.C_below h.p k, h.cp, Kd.C_below h.q k, h.cq⟩
end Go.Proofs.YtbefbhghmommhaaGreatDoor.MWo
namespace Go.Proofs.YtbefbhghmommhaaGreatDoor.MWo
open Go.RowKit Go.Proofs.YtbefbhghmommhaaGreatDoorW.PrintWords Go.Proofs.YtbefbhghmommhaaGreatDoorW.PrintLast Go.Proofs.YtbefbhghmommhaaGreatDoorW.PrintMore
attribute [local go_sem] mp_u32s mp_u32m mp_u8s mp_u8m max2_int min2_int max_two min_two max_three min_three max_four min_four
set_option linter.unusedVariables false
set_option linter.unusedSimpArgs false
def dr5_ports.l0 : Nat → Int → Int → Int → List (S68) → List (S71) → Int → Int → Int → Int → Int → Int → Int → Int → Int → Int → Int → Option (Int)
 | 0, _, _, _, _, _, _, _, _, _, _, _, _, _, _, _, _ => none
 | k + 1, x1, x5, x6, x334000, x334001, x334002, x334003, x334004, x334005, x334006, x334007, x334008, x334009, x334010, x334011, x334012 => if x6 < (x334001.length : Int) then (if 0 ≤ x6 then (if ((rd_T71 x334001 x6).f0) = x1 then (dr5_ports.l0 k x1 (wrap64 (x5 + 2)) (wrap64 (x6 + 1)) x334000 x334001 x334002 x334003 x334004 x334005 x334006 x334007 x334008 x334009 x334010 x334011 x334012) else (if ((rd_T71 x334001 x6).f1) = x1 then (dr5_ports.l0 k x1 (wrap64 (x5 + 2)) (wrap64 (x6 + 1)) x334000 x334001 x334002 x334003 x334004 x334005 x334006 x334007 x334008 x334009 x334010 x334011 x334012) else (dr5_ports.l0 k x1 x5 (wrap64 (x6 + 1)) x334000 x334001 x334002 x334003 x334004 x334005 x334006 x334007 x334008 x334009 x334010 x334011 x334012))) else (none)) else (some x5)
def dr5_ports.f (k : Nat) (l0_0 : List (S68)) (l0_1 : List (S71)) (a0_2 : Int) (a0_3 : Int) (a0_4 : Int) (a0_5 : Int) (a0_6 : Int) (a0_7 : Int) (a0_8 : Int) (a0_9 : Int) (a0_10 : Int) (a0_11 : Int) (a0_12 : Int) (a1 : Int) : Option (Int) := dr5_ports.l0 k a1 0 0 l0_0 l0_1 a0_2 a0_3 a0_4 a0_5 a0_6 a0_7 a0_8 a0_9 a0_10 a0_11 a0_12
set_option maxHeartbeats 8000000 in
set_option maxRecDepth 100000 in
theorem dr5_ports.calls (k : Nat) (A0_0 : Option Addr) (c0_0 : Nat) (l0_0 : List (S68)) (A0_1 : Option Addr) (c0_1 : Nat) (l0_1 : List (S71)) (a0_2 : Int) (a0_3 : Int) (a0_4 : Int) (a0_5 : Int) (a0_6 : Int) (a0_7 : Int) (a0_8 : Int) (a0_9 : Int) (a0_10 : Int) (a0_11 : Int) (a0_12 : Int) (a1 : Int) (r : Int) (w : World) (hr0_0 : Kd.C k68 w A0_0 l0_0.length l0_0) (hc0_0 : l0_0.length ≤ c0_0) (hr0_1 : Kd.C k71 w A0_1 l0_1.length l0_1) (hc0_1 : l0_1.length ≤ c0_1) (h : dr5_ports.f k l0_0 l0_1 a0_2 a0_3 a0_4 a0_5 a0_6 a0_7 a0_8 a0_9 a0_10 a0_11 a0_12 a1 = some r) :
  Calls Tryz.prog 84 #[.agg #[.slice A0_0 l0_0.length c0_0, .slice A0_1 l0_1.length c0_1, .int .i64 a0_2, .int .i64 a0_3, .int .i64 a0_4, .int .i64 a0_5, .int .i64 a0_6, .int .i64 a0_7, .int .i64 a0_8, .int .i64 a0_9, .int .i64 a0_10, .int .i64 a0_11, .int .i64 a0_12], .int .i64 a1] w fun e w' => e = .returned (.int .i64 r) ∧ Below w.heap.size w w' := by
 have hu25 := Tryz.underlying25
 have HR0_0 := am hr0_0
 have HC0_0 := am hc0_0
 clear hr0_0 hc0_0
 have HR0_1 := am hr0_1
 have HC0_1 := am hc0_1
 clear hr0_1 hc0_1
 have HB := am (Below.refl w.heap.size w)
 have H : (dr5_ports.l0 k a1 0 0 l0_0 l0_1 a0_2 a0_3 a0_4 a0_5 a0_6 a0_7 a0_8 a0_9 a0_10 a0_11 a0_12) = some r := h
 clear h
 have H' := am H
 clear H
 go_enter Tryz.func84, Tryz.ntmps84
 go_wp2_with (first | ((with_reducible refine gate_dst (N := 2) rfl ?_); refine box_event ?hg (N := 2) ?hd (cs := #[.slice A0_0 l0_0.length c0_0, .slice A0_1 l0_1.length c0_1, .int .i64 a0_2, .int .i64 a0_3, .int .i64 a0_4, .int .i64 a0_5, .int .i64 a0_6, .int .i64 a0_7, .int .i64 a0_8, .int .i64 a0_9, .int .i64 a0_10, .int .i64 a0_11, .int .i64 a0_12]) (t := 25) ?hr ?_; (case hd => rfl); (case hg => rfl); (case hr => first | (go_simp; done) | (go_simp; rfl)); intro gb333 hg w3 hbox hb; have n0_ := am (below_step (by repeat (first | (with_reducible first | exact HB.out | apply below_alloc | apply pw_below_drewN | apply below_drew1) | exact HB.out)) hb); have n1_ := am (hbox); have n2_ := am ((by rw [hg]; exact (below_size (by repeat (first | (with_reducible first | exact HB.out | apply below_alloc | apply pw_below_drewN | apply below_drew1) | exact HB.out))) : w.heap.size ≤ gb333)); have n3_ := am ((by rw [hg]; exact (below_size (by repeat (first | (with_reducible first | exact HB.out | apply below_alloc | apply pw_below_drewN | apply below_drew1) | exact HB.out))) : w.heap.size ≤ gb333)); clear HB; have HB := n0_; have BK333 := n1_; have GW333 := n2_; have GE333 := n3_; clear n0_ n1_ n2_ n3_; clear hb hbox hg))
 go_loopg [5, 6] k (fun kq v5 v6 w' => ∃ (x5_1 : Int) (x6_1 : Int), v5 = .int .i64 x5_1 ∧ v6 = .int .i64 x6_1 ∧ Aside0 (dr5_ports.l0 kq a1 x5_1 x6_1 l0_0 l0_1 a0_2 a0_3 a0_4 a0_5 a0_6 a0_7 a0_8 a0_9 a0_10 a0_11 a0_12 = some r) ∧ Aside0 (kq ≤ k) ∧ Aside0 (w'.heap[gb333]? = some (.cells #[(.slice A0_0 l0_0.length c0_0), (.slice A0_1 l0_1.length c0_1), .int .i64 a0_2, .int .i64 a0_3, .int .i64 a0_4, .int .i64 a0_5, .int .i64 a0_6, .int .i64 a0_7, .int .i64 a0_8, .int .i64 a0_9, .int .i64 a0_10, .int .i64 a0_11, .int .i64 a0_12] 25 (0, 0))) ∧ Aside0 (Below w.heap.size w w'))
 case atStart => exact ⟨(0), (0), (by first | rfl | (simp; done) | (simp [*]; done) | (have := TNA.out; unfold wrap64; congr 1; omega) | (unfold wrap64; omega)), (by first | rfl | (simp; done) | (simp [*]; done) | (have := TNA.out; unfold wrap64; congr 1; omega) | (unfold wrap64; omega)), H', ⟨Nat.le_refl _⟩, ⟨by (with_reducible repeat (first | refine blk_drewN ?_ _ | refine blk_drew ?_ | refine blk_alloc ?_ _)); exact BK333.out⟩, ⟨by repeat (first | (with_reducible first | exact HB.out | apply below_alloc | apply pw_below_drewN | apply below_drew1 | refine below_set ?_ GE333.out) | exact HB.out)⟩⟩
 case round =>
  clear H'
  try clear p2
  obtain ⟨x5_1, x6_1, rfl, rfl, HA, HK1, BK333, HB⟩ := hrel
  cases gk with
  | zero => exact absurd HA.out (by simp [dr5_ports.l0])
  | succ k1 =>
   have H := HA.out
   clear HA
   simp only [dr5_ports.l0] at H
   by_cases c4 : x6_1 < (l0_1.length : Int)
   ·rw [if_pos c4] at H
    have c4b0 : decide (x6_1 < (l0_1.length : Int)) = true := decide_eq_true c4
    clear c4
    by_cases c5 : 0 ≤ x6_1
    ·rw [if_pos c5] at H
     have c5b0 : decide (0 ≤ x6_1) = true := decide_eq_true c5
     clear c5
     by_cases c6 : ((rd_T71 l0_1 x6_1).f0) = a1
     ·rw [if_pos c6] at H
      have c6b0 : (((rd_T71 l0_1 x6_1).f0) == a1) = true := beq_iff_eq.mpr c6
      have c6b1 : (((rd_T71 l0_1 x6_1).f0) != a1) = false := bne_eq_false_iff_eq.mpr c6
      clear c6
      have H' := am H
      clear H
      obtain ⟨hcz7_0, hcz7_1, hcz7_2, hcz7_3, hcz7_4, hcz7_5, hcz7_6, hcz7_7, hcz7_8, hcz7_9, hcz7_10, hcz7_11, hcz7_12⟩ := cellsK13 BK333.out
      obtain ⟨hfz7_0, hfz7_1, hfz7_2, hfz7_3, hfz7_4, hfz7_5, hfz7_6, hfz7_7, hfz7_8, hfz7_9, hfz7_10, hfz7_11, hfz7_12⟩ := frozK13 BK333.out
      have p334 : 0 ≤ (x6_1 : Int) := of_decide_eq_true (by first | (with_reducible assumption) | assumption)
      have q334 : x6_1 < (l0_1.length : Int) := of_decide_eq_true (by first | (with_reducible assumption) | assumption)
      obtain ⟨ad334, e334, hx334_0, hx334_1, hx334_2, hx334_3, hx334_4, hx334_5⟩ := at_T71 HR0_1.out x6_1 p334 q334
      cases e334
      replace hx334_0 := (HB.out.cell (World.block_lt_of_cell? w _ hx334_0)).trans hx334_0
      replace hx334_1 := (HB.out.cell (World.block_lt_of_cell? w _ hx334_1)).trans hx334_1
      replace hx334_2 := (HB.out.cell (World.block_lt_of_cell? w _ hx334_2)).trans hx334_2
      replace hx334_3 := (HB.out.cell (World.block_lt_of_cell? w _ hx334_3)).trans hx334_3
      replace hx334_4 := (HB.out.cell (World.block_lt_of_cell? w _ hx334_4)).trans hx334_4
      replace hx334_5 := (HB.out.cell (World.block_lt_of_cell? w _ hx334_5)).trans hx334_5
      replace p334 := eq_true p334
      replace q334 := eq_true q334
      go_wp2
      go_roundg k1
      case measure => have := HK1.out; omega
      case rel => exact ⟨(wrap64 (x5_1 + 2)), (wrap64 (x6_1 + 1)), (by first | rfl | (simp; done) | (simp [*]; done) | (have := TNA.out; unfold wrap64; congr 1; omega) | (unfold wrap64; omega)), (by first | rfl | (simp; done) | (simp [*]; done) | (have := TNA.out; unfold wrap64; congr 1; omega) | (unfold wrap64; omega)), H', ⟨by have := HK1.out; omega⟩, ⟨by (with_reducible repeat (first | refine blk_drewN ?_ _ | refine blk_drew ?_ | refine blk_alloc ?_ _)); exact BK333.out⟩, ⟨by repeat (first | (with_reducible first | exact HB.out | apply below_alloc | apply pw_below_drewN | apply below_drew1 | refine below_set ?_ GE333.out) | exact HB.out)⟩⟩
     ·rw [if_neg c6] at H
      have c6b0 : (((rd_T71 l0_1 x6_1).f0) == a1) = false := beq_eq_false_iff_ne.mpr c6
      have c6b1 : (((rd_T71 l0_1 x6_1).f0) != a1) = true := bne_iff_ne.mpr c6
      by_cases c8 : ((rd_T71 l0_1 x6_1).f1) = a1
      ·rw [if_pos c8] at H
       have c8b0 : (((rd_T71 l0_1 x6_1).f1) == a1) = true := beq_iff_eq.mpr c8
       have c8b1 : (((rd_T71 l0_1 x6_1).f1) != a1) = false := bne_eq_false_iff_eq.mpr c8
       clear c8
       have H' := am H
       clear H
       obtain ⟨hcz9_0, hcz9_1, hcz9_2, hcz9_3, hcz9_4, hcz9_5, hcz9_6, hcz9_7, hcz9_8, hcz9_9, hcz9_10, hcz9_11, hcz9_12⟩ := cellsK13 BK333.out
       obtain ⟨hfz9_0, hfz9_1, hfz9_2, hfz9_3, hfz9_4, hfz9_5, hfz9_6, hfz9_7, hfz9_8, hfz9_9, hfz9_10, hfz9_11, hfz9_12⟩ := frozK13 BK333.out
       have p334 : 0 ≤ (x6_1 : Int) := of_decide_eq_true (by first | (with_reducible assumption) | assumption)
       have q334 : x6_1 < (l0_1.length : Int) := of_decide_eq_true (by first | (with_reducible assumption) | assumption)
       obtain ⟨ad334, e334, hx334_0, hx334_1, hx334_2, hx334_3, hx334_4, hx334_5⟩ := at_T71 HR0_1.out x6_1 p334 q334
       cases e334
       replace hx334_0 := (HB.out.cell (World.block_lt_of_cell? w _ hx334_0)).trans hx334_0
       replace hx334_1 := (HB.out.cell (World.block_lt_of_cell? w _ hx334_1)).trans hx334_1
       replace hx334_2 := (HB.out.cell (World.block_lt_of_cell? w _ hx334_2)).trans hx334_2
       replace hx334_3 := (HB.out.cell (World.block_lt_of_cell? w _ hx334_3)).trans hx334_3
       replace hx334_4 := (HB.out.cell (World.block_lt_of_cell? w _ hx334_4)).trans hx334_4
       replace hx334_5 := (HB.out.cell (World.block_lt_of_cell? w _ hx334_5)).trans hx334_5
       replace p334 := eq_true p334
       replace q334 := eq_true q334
       have p335 : 0 ≤ (x6_1 : Int) := of_decide_eq_true (by first | (with_reducible assumption) | assumption)
       have q335 : x6_1 < (l0_1.length : Int) := of_decide_eq_true (by first | (with_reducible assumption) | assumption)
       obtain ⟨ad335, e335, hx335_0, hx335_1, hx335_2, hx335_3, hx335_4, hx335_5⟩ := at_T71 HR0_1.out x6_1 p335 q335
       obtain rfl : ad334 = ad335 := (by injection e335)
       replace hx335_0 := (HB.out.cell (World.block_lt_of_cell? w _ hx335_0)).trans hx335_0
       replace hx335_1 := (HB.out.cell (World.block_lt_of_cell? w _ hx335_1)).trans hx335_1
       replace hx335_2 := (HB.out.cell (World.block_lt_of_cell? w _ hx335_2)).trans hx335_2
       replace hx335_3 := (HB.out.cell (World.block_lt_of_cell? w _ hx335_3)).trans hx335_3
       replace hx335_4 := (HB.out.cell (World.block_lt_of_cell? w _ hx335_4)).trans hx335_4
       replace hx335_5 := (HB.out.cell (World.block_lt_of_cell? w _ hx335_5)).trans hx335_5
       replace p335 := eq_true p335
       replace q335 := eq_true q335
       go_wp2
       go_roundg k1
       case measure => have := HK1.out; omega
       case rel => exact ⟨(wrap64 (x5_1 + 2)), (wrap64 (x6_1 + 1)), (by first | rfl | (simp; done) | (simp [*]; done) | (have := TNA.out; unfold wrap64; congr 1; omega) | (unfold wrap64; omega)), (by first | rfl | (simp; done) | (simp [*]; done) | (have := TNA.out; unfold wrap64; congr 1; omega) | (unfold wrap64; omega)), H', ⟨by have := HK1.out; omega⟩, ⟨by (with_reducible repeat (first | refine blk_drewN ?_ _ | refine blk_drew ?_ | refine blk_alloc ?_ _)); exact BK333.out⟩, ⟨by repeat (first | (with_reducible first | exact HB.out | apply below_alloc | apply pw_below_drewN | apply below_drew1 | refine below_set ?_ GE333.out) | exact HB.out)⟩⟩
      ·rw [if_neg c8] at H
       have c8b0 : (((rd_T71 l0_1 x6_1).f1) == a1) = false := beq_eq_false_iff_ne.mpr c8
       have c8b1 : (((rd_T71 l0_1 x6_1).f1) != a1) = true := bne_iff_ne.mpr c8
       have H' := am H
       clear H
       obtain ⟨hcz10_0, hcz10_1, hcz10_2, hcz10_3, hcz10_4, hcz10_5, hcz10_6, hcz10_7, hcz10_8, hcz10_9, hcz10_10, hcz10_11, hcz10_12⟩ := cellsK13 BK333.out
       obtain ⟨hfz10_0, hfz10_1, hfz10_2, hfz10_3, hfz10_4, hfz10_5, hfz10_6, hfz10_7, hfz10_8, hfz10_9, hfz10_10, hfz10_11, hfz10_12⟩ := frozK13 BK333.out
       have p334 : 0 ≤ (x6_1 : Int) := of_decide_eq_true (by first | (with_reducible assumption) | assumption)
       have q334 : x6_1 < (l0_1.length : Int) := of_decide_eq_true (by first | (with_reducible assumption) | assumption)
       obtain ⟨ad334, e334, hx334_0, hx334_1, hx334_2, hx334_3, hx334_4, hx334_5⟩ := at_T71 HR0_1.out x6_1 p334 q334
       cases e334
       replace hx334_0 := (HB.out.cell (World.block_lt_of_cell? w _ hx334_0)).trans hx334_0
       replace hx334_1 := (HB.out.cell (World.block_lt_of_cell? w _ hx334_1)).trans hx334_1
       replace hx334_2 := (HB.out.cell (World.block_lt_of_cell? w _ hx334_2)).trans hx334_2
       replace hx334_3 := (HB.out.cell (World.block_lt_of_cell? w _ hx334_3)).trans hx334_3
       replace hx334_4 := (HB.out.cell (World.block_lt_of_cell? w _ hx334_4)).trans hx334_4
       replace hx334_5 := (HB.out.cell (World.block_lt_of_cell? w _ hx334_5)).trans hx334_5
       replace p334 := eq_true p334
       replace q334 := eq_true q334
       have p335 : 0 ≤ (x6_1 : Int) := of_decide_eq_true (by first | (with_reducible assumption) | assumption)
       have q335 : x6_1 < (l0_1.length : Int) := of_decide_eq_true (by first | (with_reducible assumption) | assumption)
       obtain ⟨ad335, e335, hx335_0, hx335_1, hx335_2, hx335_3, hx335_4, hx335_5⟩ := at_T71 HR0_1.out x6_1 p335 q335
       obtain rfl : ad334 = ad335 := (by injection e335)
       replace hx335_0 := (HB.out.cell (World.block_lt_of_cell? w _ hx335_0)).trans hx335_0
       replace hx335_1 := (HB.out.cell (World.block_lt_of_cell? w _ hx335_1)).trans hx335_1
       replace hx335_2 := (HB.out.cell (World.block_lt_of_cell? w _ hx335_2)).trans hx335_2
       replace hx335_3 := (HB.out.cell (World.block_lt_of_cell? w _ hx335_3)).trans hx335_3
       replace hx335_4 := (HB.out.cell (World.block_lt_of_cell? w _ hx335_4)).trans hx335_4
       replace hx335_5 := (HB.out.cell (World.block_lt_of_cell? w _ hx335_5)).trans hx335_5
       replace p335 := eq_true p335
       replace q335 := eq_true q335
       go_wp2
       go_roundg k1
       case measure => have := HK1.out; omega
       case rel => exact ⟨(x5_1), (wrap64 (x6_1 + 1)), (by first | rfl | (simp; done) | (simp [*]; done) | (have := TNA.out; unfold wrap64; congr 1; omega) | (unfold wrap64; omega)), (by first | rfl | (simp; done) | (simp [*]; done) | (have := TNA.out; unfold wrap64; congr 1; omega) | (unfold wrap64; omega)), H', ⟨by have := HK1.out; omega⟩, ⟨by (with_reducible repeat (first | refine blk_drewN ?_ _ | refine blk_drew ?_ | refine blk_alloc ?_ _)); exact BK333.out⟩, ⟨by repeat (first | (with_reducible first | exact HB.out | apply below_alloc | apply pw_below_drewN | apply below_drew1 | refine below_set ?_ GE333.out) | exact HB.out)⟩⟩
    ·rw [if_neg c5] at H
     exact absurd H (by simp)
   ·rw [if_neg c4] at H
    have c4b0 : decide (x6_1 < (l0_1.length : Int)) = false := decide_eq_false c4
    clear c4
    obtain rfl := Option.some.inj H
    obtain ⟨hcz11_0, hcz11_1, hcz11_2, hcz11_3, hcz11_4, hcz11_5, hcz11_6, hcz11_7, hcz11_8, hcz11_9, hcz11_10, hcz11_11, hcz11_12⟩ := cellsK13 BK333.out
    obtain ⟨hfz11_0, hfz11_1, hfz11_2, hfz11_3, hfz11_4, hfz11_5, hfz11_6, hfz11_7, hfz11_8, hfz11_9, hfz11_10, hfz11_11, hfz11_12⟩ := frozK13 BK333.out
    go_wp2
    go_ret
    exact ⟨by first | rfl | (simp [errW_none, errW_some] <;> rfl) | (simp [*, errW_none, errW_some] <;> rfl), by repeat (first | (with_reducible first | exact HB.out | apply below_alloc | apply pw_below_drewN | apply below_drew1 | refine below_set ?_ GE333.out) | exact HB.out)⟩
def dr5_slew.f (l0_0 : List (S68)) (l0_1 : List (S71)) (a0_2 : Int) (a0_3 : Int) (a0_4 : Int) (a0_5 : Int) (a0_6 : Int) (a0_7 : Int) (a0_8 : Int) (a0_9 : Int) (a0_10 : Int) (a0_11 : Int) (a0_12 : Int) : Option (Int) := (dr5_up.f (wrap64 (a0_6 * a0_2))).bind fun t337 => (some t337)
set_option maxHeartbeats 8000000 in
set_option maxRecDepth 100000 in
theorem dr5_slew.calls (A0_0 : Option Addr) (c0_0 : Nat) (l0_0 : List (S68)) (A0_1 : Option Addr) (c0_1 : Nat) (l0_1 : List (S71)) (a0_2 : Int) (a0_3 : Int) (a0_4 : Int) (a0_5 : Int) (a0_6 : Int) (a0_7 : Int) (a0_8 : Int) (a0_9 : Int) (a0_10 : Int) (a0_11 : Int) (a0_12 : Int) (r : Int) (w : World) (hr0_0 : Kd.C k68 w A0_0 l0_0.length l0_0) (hc0_0 : l0_0.length ≤ c0_0) (hr0_1 : Kd.C k71 w A0_1 l0_1.length l0_1) (hc0_1 : l0_1.length ≤ c0_1) (h : dr5_slew.f l0_0 l0_1 a0_2 a0_3 a0_4 a0_5 a0_6 a0_7 a0_8 a0_9 a0_10 a0_11 a0_12 = some r) :
  Calls Tryz.prog 104 #[.agg #[.slice A0_0 l0_0.length c0_0, .slice A0_1 l0_1.length c0_1, .int .i64 a0_2, .int .i64 a0_3, .int .i64 a0_4, .int .i64 a0_5, .int .i64 a0_6, .int .i64 a0_7, .int .i64 a0_8, .int .i64 a0_9, .int .i64 a0_10, .int .i64 a0_11, .int .i64 a0_12]] w fun e w' => e = .returned (.int .i64 r) ∧ Below w.heap.size w w' := by
 have hu25 := Tryz.underlying25
 have HR0_0 := am hr0_0
 have HC0_0 := am hc0_0
 clear hr0_0 hc0_0
 have HR0_1 := am hr0_1
 have HC0_1 := am hc0_1
 clear hr0_1 hc0_1
 have HB := am (Below.refl w.heap.size w)
 have H : ((dr5_up.f (wrap64 (a0_6 * a0_2))).bind fun t337 => (some t337)) = some r := h
 clear h
 replace H := Option.bind_eq_some_iff.mp H
 obtain ⟨t337, A20, H⟩ := H
 replace H : (some t337) = some r := H
 have A2 := am A20
 clear A20
 obtain rfl := Option.some.inj H
 go_enter Tryz.func104, Tryz.ntmps104
 go_wp2_with (first | ((with_reducible refine gate_dst (N := 1) rfl ?_); refine box_event ?hg (N := 1) ?hd (cs := #[.slice A0_0 l0_0.length c0_0, .slice A0_1 l0_1.length c0_1, .int .i64 a0_2, .int .i64 a0_3, .int .i64 a0_4, .int .i64 a0_5, .int .i64 a0_6, .int .i64 a0_7, .int .i64 a0_8, .int .i64 a0_9, .int .i64 a0_10, .int .i64 a0_11, .int .i64 a0_12]) (t := 25) ?hr ?_; (case hd => rfl); (case hg => rfl); (case hr => first | (go_simp; done) | (go_simp; rfl)); intro gb336 hg w3 hbox hb; have n0_ := am (below_step (by repeat (first | (with_reducible first | exact HB.out | apply below_alloc | apply pw_below_drewN | apply below_drew1) | exact HB.out)) hb); have n1_ := am (hbox); have n2_ := am ((by rw [hg]; exact (below_size (by repeat (first | (with_reducible first | exact HB.out | apply below_alloc | apply pw_below_drewN | apply below_drew1) | exact HB.out))) : w.heap.size ≤ gb336)); have n3_ := am ((by rw [hg]; exact (below_size (by repeat (first | (with_reducible first | exact HB.out | apply below_alloc | apply pw_below_drewN | apply below_drew1) | exact HB.out))) : w.heap.size ≤ gb336)); clear HB; have HB := n0_; have BK336 := n1_; have GW336 := n2_; have GE336 := n3_; clear n0_ n1_ n2_ n3_; clear hb hbox hg; obtain ⟨hcz4_0, hcz4_1, hcz4_2, hcz4_3, hcz4_4, hcz4_5, hcz4_6, hcz4_7, hcz4_8, hcz4_9, hcz4_10, hcz4_11, hcz4_12⟩ := cellsK13 BK336.out; obtain ⟨hfz4_0, hfz4_1, hfz4_2, hfz4_3, hfz4_4, hfz4_5, hfz4_6, hfz4_7, hfz4_8, hfz4_9, hfz4_10, hfz4_11, hfz4_12⟩ := frozK13 BK336.out) | ((with_reducible refine gate_callee (f := 74) rfl ?_); refine goesL_ (some 8) rfl rfl Tryz.func74 (by kernel_rfl) rfl #[.int .i64 (wrap64 (a0_6 * a0_2))] rfl (by (try simp only [List.map_toArray, List.map_cons, List.map_nil]); first | done | rfl | (simp only [List.length_drop, List.length_take]; rfl)) ?_; (with_reducible refine (dr5_up.calls (wrap64 (a0_6 * a0_2)) t337 _ A2.out).mono ?_); rintro e w' ⟨rfl, ⟨nd, rfl⟩⟩; refine ⟨_, rfl, ?_⟩))
 go_ret
 exact ⟨by first | rfl | (simp [errW_none, errW_some] <;> rfl) | (simp [*, errW_none, errW_some] <;> rfl), by repeat (first | (with_reducible first | exact HB.out | apply below_alloc | apply pw_below_drewN | apply below_drew1 | refine below_set ?_ GE336.out) | exact HB.out)⟩
def dr5_step.f (l0_0 : List (S68)) (l0_1 : List (S71)) (a0_2 : Int) (a0_3 : Int) (a0_4 : Int) (a0_5 : Int) (a0_6 : Int) (a0_7 : Int) (a0_8 : Int) (a0_9 : Int) (a0_10 : Int) (a0_11 : Int) (a0_12 : Int) : Option (Int) := (dr5_edge.f l0_0 l0_1 a0_2 a0_3 a0_4 a0_5 a0_6 a0_7 a0_8 a0_9 a0_10 a0_11 a0_12).bind fun t339 => ((dr5_slew.f l0_0 l0_1 a0_2 a0_3 a0_4 a0_5 a0_6 a0_7 a0_8 a0_9 a0_10 a0_11 a0_12).bind fun t340 => (some (wrap64 ((wrap64 ((wrap64 (4 * t339)) + (wrap64 (2 * t340)))) + 2))))
def dr5_step.T1 : Bool × List (List Nat × List Nat) := (true, [([], []), ([0], [0]), ([1], [1]), ([], []), ([3, 1], [3]), ([4], [4]), ([2, 5], [2, 5]), ([6], [6]), ([7, 4, 0, 1, 2, 3, 4, 5, 6, 7], [7])])
def dr5_step.B1 : List Nat := [0, 1, 3, 0, 11, 27, 63, 127, 255]
theorem dr5_step.tab1 : rtab .any (opsOf Tryz.f91 1) = dr5_step.T1 := by kernel_rfl
theorem dr5_step.bits1 : waitsOk dr5_step.T1.2 dr5_step.B1 = true := by kernel_rfl
set_option maxHeartbeats 8000000 in
set_option maxRecDepth 100000 in
theorem dr5_step.calls (A0_0 : Option Addr) (c0_0 : Nat) (l0_0 : List (S68)) (A0_1 : Option Addr) (c0_1 : Nat) (l0_1 : List (S71)) (a0_2 : Int) (a0_3 : Int) (a0_4 : Int) (a0_5 : Int) (a0_6 : Int) (a0_7 : Int) (a0_8 : Int) (a0_9 : Int) (a0_10 : Int) (a0_11 : Int) (a0_12 : Int) (r : Int) (w : World) (hr0_0 : Kd.C k68 w A0_0 l0_0.length l0_0) (hc0_0 : l0_0.length ≤ c0_0) (hr0_1 : Kd.C k71 w A0_1 l0_1.length l0_1) (hc0_1 : l0_1.length ≤ c0_1) (h : dr5_step.f l0_0 l0_1 a0_2 a0_3 a0_4 a0_5 a0_6 a0_7 a0_8 a0_9 a0_10 a0_11 a0_12 = some r) :
  Calls Tryz.prog 91 #[.agg #[.slice A0_0 l0_0.length c0_0, .slice A0_1 l0_1.length c0_1, .int .i64 a0_2, .int .i64 a0_3, .int .i64 a0_4, .int .i64 a0_5, .int .i64 a0_6, .int .i64 a0_7, .int .i64 a0_8, .int .i64 a0_9, .int .i64 a0_10, .int .i64 a0_11, .int .i64 a0_12]] w fun e w' => e = .returned (.int .i64 r) ∧ Below w.heap.size w w' := by
 have hu25 := Tryz.underlying25
 have HR0_0 := am hr0_0
 have HC0_0 := am hc0_0
 clear hr0_0 hc0_0
 have HR0_1 := am hr0_1
 have HC0_1 := am hc0_1
 clear hr0_1 hc0_1
 have HB := am (Below.refl w.heap.size w)
 have H : ((dr5_edge.f l0_0 l0_1 a0_2 a0_3 a0_4 a0_5 a0_6 a0_7 a0_8 a0_9 a0_10 a0_11 a0_12).bind fun t339 => ((dr5_slew.f l0_0 l0_1 a0_2 a0_3 a0_4 a0_5 a0_6 a0_7 a0_8 a0_9 a0_10 a0_11 a0_12).bind fun t340 => (some (wrap64 ((wrap64 ((wrap64 (4 * t339)) + (wrap64 (2 * t340)))) + 2))))) = some r := h
 clear h
 replace H := Option.bind_eq_some_iff.mp H
 obtain ⟨t339, A20, H⟩ := H
 replace H : ((dr5_slew.f l0_0 l0_1 a0_2 a0_3 a0_4 a0_5 a0_6 a0_7 a0_8 a0_9 a0_10 a0_11 a0_12).bind fun t340 => (some (wrap64 ((wrap64 ((wrap64 (4 * t339)) + (wrap64 (2 * t340)))) + 2)))) = some r := H
 have A2 := am A20
 clear A20
 replace H := Option.bind_eq_some_iff.mp H
 obtain ⟨t340, A30, H⟩ := H
 replace H : (some (wrap64 ((wrap64 ((wrap64 (4 * t339)) + (wrap64 (2 * t340)))) + 2))) = some r := H
 have A3 := am A30
 clear A30
 obtain rfl := Option.some.inj H
 go_enter Tryz.func91, Tryz.ntmps91
 try go_wp2_with (first | ((with_reducible refine gate_dst (N := 1) rfl ?_); refine box_event ?hg (N := 1) ?hd (cs := #[.slice A0_0 l0_0.length c0_0, .slice A0_1 l0_1.length c0_1, .int .i64 a0_2, .int .i64 a0_3, .int .i64 a0_4, .int .i64 a0_5, .int .i64 a0_6, .int .i64 a0_7, .int .i64 a0_8, .int .i64 a0_9, .int .i64 a0_10, .int .i64 a0_11, .int .i64 a0_12]) (t := 25) ?hr ?_; (case hd => rfl); (case hg => rfl); (case hr => first | (go_simp; done) | (go_simp; rfl)); intro gb338 hg w4 hbox hb; have n0_ := am (below_step (by repeat (first | (with_reducible first | exact HB.out | apply below_alloc | apply pw_below_drewN | apply below_drew1) | exact HB.out)) hb); have n1_ := am (hbox); have n2_ := am ((by rw [hg]; exact (below_size (by repeat (first | (with_reducible first | exact HB.out | apply below_alloc | apply pw_below_drewN | apply below_drew1) | exact HB.out))) : w.heap.size ≤ gb338)); have n3_ := am ((by rw [hg]; exact (below_size (by repeat (first | (with_reducible first | exact HB.out | apply below_alloc | apply pw_below_drewN | apply below_drew1) | exact HB.out))) : w.heap.size ≤ gb338)); clear HB; have HB := n0_; have BK338 := n1_; have GW338 := n2_; have GE338 := n3_; clear n0_ n1_ n2_ n3_; clear hb hbox hg))
 have n0_ := am (blk_drew BK338.out)
 have n1_ := am (below_drew1 HB.out)
 clear BK338
 clear HB
 have BK338 := n0_
 have HB := n1_
 clear n0_ n1_
 refine start_ (n := 9) (S := fun w' => w'.cell? ⟨gb338, 0, none⟩ = some (.slice A0_0 l0_0.length c0_0) ∧ w'.cell? ⟨gb338, 1, none⟩ = some (.slice A0_1 l0_1.length c0_1) ∧ w'.cell? ⟨gb338, 2, none⟩ = some (.int .i64 a0_2) ∧ w'.cell? ⟨gb338, 3, none⟩ = some (.int .i64 a0_3) ∧ w'.cell? ⟨gb338, 4, none⟩ = some (.int .i64 a0_4) ∧ w'.cell? ⟨gb338, 5, none⟩ = some (.int .i64 a0_5) ∧ w'.cell? ⟨gb338, 6, none⟩ = some (.int .i64 a0_6) ∧ w'.cell? ⟨gb338, 7, none⟩ = some (.int .i64 a0_7) ∧ w'.cell? ⟨gb338, 8, none⟩ = some (.int .i64 a0_8) ∧ w'.cell? ⟨gb338, 9, none⟩ = some (.int .i64 a0_9) ∧ w'.cell? ⟨gb338, 10, none⟩ = some (.int .i64 a0_10) ∧ w'.cell? ⟨gb338, 11, none⟩ = some (.int .i64 a0_11) ∧ w'.cell? ⟨gb338, 12, none⟩ = some (.int .i64 a0_12)) (ds := []) #[false, false, false, false, false, false, false, false, false] (by kernel_rfl) rfl rfl (cellsK13 BK338.out) (fun hHeld => ?_); refine with_tabW dr5_step.tab1 dr5_step.bits1 (fun HT_ HW_ => ?_)
 generalize w4.drew = w5 at BK338 HB hHeld ⊢
 refine take_ (i := 0) (N := some 3) (v := ?_) (a' := ?_) #[true, false, false, false, false, false, false, false, false] rfl rfl (take_ofW HT_.out HW_.out (by kernel_rfl)) (fun _ _ _ h => h) (Or.inl ⟨by rfl, ?_⟩) hHeld ?_ ?_
 rotate_left
 ·rintro w' ⟨s0, s1, s2, s3, s4, s5, s6, s7, s8, s9, s10, s11, s12⟩
  go_simp
  with_reducible rfl
 rotate_left
 ·simp only [Act.put, sAa, sBb, sCc, i64_w, i32_w]
  rfl
 refine take_ (i := 3) (N := some 6) (v := ?_) (a' := ?_) #[true, false, false, true, false, false, false, false, false] rfl rfl (take_ofW HT_.out HW_.out (by kernel_rfl)) (fun _ _ _ h => h) (Or.inl ⟨by rfl, ?_⟩) hHeld ?_ ?_
 rotate_left
 ·rintro w' ⟨s0, s1, s2, s3, s4, s5, s6, s7, s8, s9, s10, s11, s12⟩
  go_simp
  with_reducible rfl
 rotate_left
 ·simp only [Act.put, sAa, sBb, sCc, i64_w, i32_w]
  rfl
 refine one_ (i := 1) (N := some 4) #[true, true, false, true, false, false, false, false, false] rfl rfl (one_of HT_.out (by kernel_rfl)) (by decide) (fun K hK => ?_)
 refine goes_ Tryz.func61 (by kernel_rfl) rfl #[.agg #[.slice A0_0 l0_0.length c0_0, .slice A0_1 l0_1.length c0_1, .int .i64 a0_2, .int .i64 a0_3, .int .i64 a0_4, .int .i64 a0_5, .int .i64 a0_6, .int .i64 a0_7, .int .i64 a0_8, .int .i64 a0_9, .int .i64 a0_10, .int .i64 a0_11, .int .i64 a0_12]] (by rfl) rfl rfl (by (try simp only [List.map_toArray, List.map_cons, List.map_nil]); first | done | rfl | (simp only [List.length_drop, List.length_take]; rfl)) ?_
 with_reducible refine (dr5_edge.calls _ _ l0_0 _ _ l0_1 a0_2 a0_3 a0_4 a0_5 a0_6 a0_7 a0_8 a0_9 a0_10 a0_11 a0_12 t339 _ ?side1 ?side2 ?side3 ?side4 A2.out).mono ?_
 (case side1 => repeat (first | exact (Kd.C_below HR0_0.out HB.out) | (with_reducible refine Kd.C_alloc ?_ _) | (with_reducible refine Kd.C_drewN ?_ _) | (with_reducible refine Kd.C_drew ?_)))
 (case side2 => exact HC0_0.out)
 (case side3 => repeat (first | exact (Kd.C_below HR0_1.out HB.out) | (with_reducible refine Kd.C_alloc ?_ _) | (with_reducible refine Kd.C_drewN ?_ _) | (with_reducible refine Kd.C_drew ?_)))
 (case side4 => exact HC0_1.out)
 rintro e w6 ⟨rfl, hb⟩
 refine ⟨_, rfl, ?_⟩
 have n0_ := am (blk_below (g := gb338) (o := .cells #[.slice A0_0 l0_0.length c0_0, .slice A0_1 l0_1.length c0_1, .int .i64 a0_2, .int .i64 a0_3, .int .i64 a0_4, .int .i64 a0_5, .int .i64 a0_6, .int .i64 a0_7, .int .i64 a0_8, .int .i64 a0_9, .int .i64 a0_10, .int .i64 a0_11, .int .i64 a0_12] 25 (0, 0)) (by (with_reducible repeat (first | refine blk_drewN ?_ _ | refine blk_drew ?_ | refine blk_alloc ?_ _)); exact BK338.out) hb)
 have n1_ := am (below_step (by repeat (first | (with_reducible first | exact HB.out | apply below_alloc | apply pw_below_drewN | apply below_drew1 | refine below_set ?_ GE338.out) | exact HB.out)) hb)
 clear BK338
 clear HB
 have BK338 := n0_
 have HB := n1_
 clear n0_ n1_
 (try clear hb)
 (try clear hb2)
 (try clear hk)
 (try clear hi)
 refine hK.out _ _ (cellsK13 BK338.out) (fun hHeld => ?_)
 clear hK K
 refine norm_ (a' := ?_) ?_ ?_
 rotate_left
 ·show Act.put _ (some 4) _ = _
  simp only [Act.put, sAa, sBb, sCc, i64_w, i32_w]
  rfl
 refine pure_ (i := 2) (N := some 5) (v := ?_) (a' := ?_) #[true, true, true, true, false, false, false, false, false] rfl rfl (any_of HT_.out (by kernel_rfl)) (fun _ _ _ h => h) (Or.inl ⟨by rfl, ?_⟩) ?_ ?_
 rotate_left
 ·intro w'
  go_simp
  with_reducible rfl
 rotate_left
 ·simp only [Act.put, sAa, sBb, sCc, i64_w, i32_w]
  rfl
 refine one_ (i := 4) (N := some 7) #[true, true, true, true, true, false, false, false, false] rfl rfl (one_of HT_.out (by kernel_rfl)) (by decide) (fun K hK => ?_)
 refine goes_ Tryz.func104 (by kernel_rfl) rfl #[.agg #[.slice A0_0 l0_0.length c0_0, .slice A0_1 l0_1.length c0_1, .int .i64 a0_2, .int .i64 a0_3, .int .i64 a0_4, .int .i64 a0_5, .int .i64 a0_6, .int .i64 a0_7, .int .i64 a0_8, .int .i64 a0_9, .int .i64 a0_10, .int .i64 a0_11, .int .i64 a0_12]] (by rfl) rfl rfl (by (try simp only [List.map_toArray, List.map_cons, List.map_nil]); first | done | rfl | (simp only [List.length_drop, List.length_take]; rfl)) ?_
 with_reducible refine (dr5_slew.calls _ _ l0_0 _ _ l0_1 a0_2 a0_3 a0_4 a0_5 a0_6 a0_7 a0_8 a0_9 a0_10 a0_11 a0_12 t340 _ ?side1 ?side2 ?side3 ?side4 A3.out).mono ?_
 (case side1 => repeat (first | exact (Kd.C_below HR0_0.out HB.out) | (with_reducible refine Kd.C_alloc ?_ _) | (with_reducible refine Kd.C_drewN ?_ _) | (with_reducible refine Kd.C_drew ?_)))
 (case side2 => exact HC0_0.out)
 (case side3 => repeat (first | exact (Kd.C_below HR0_1.out HB.out) | (with_reducible refine Kd.C_alloc ?_ _) | (with_reducible refine Kd.C_drewN ?_ _) | (with_reducible refine Kd.C_drew ?_)))
 (case side4 => exact HC0_1.out)
 rintro e w7 ⟨rfl, hb⟩
 refine ⟨_, rfl, ?_⟩
 have n0_ := am (blk_below (g := gb338) (o := .cells #[.slice A0_0 l0_0.length c0_0, .slice A0_1 l0_1.length c0_1, .int .i64 a0_2, .int .i64 a0_3, .int .i64 a0_4, .int .i64 a0_5, .int .i64 a0_6, .int .i64 a0_7, .int .i64 a0_8, .int .i64 a0_9, .int .i64 a0_10, .int .i64 a0_11, .int .i64 a0_12] 25 (0, 0)) (by (with_reducible repeat (first | refine blk_drewN ?_ _ | refine blk_drew ?_ | refine blk_alloc ?_ _)); exact BK338.out) hb)
 have n1_ := am (below_step (by repeat (first | (with_reducible first | exact HB.out | apply below_alloc | apply pw_below_drewN | apply below_drew1 | refine below_set ?_ GE338.out) | exact HB.out)) hb)
 clear BK338
 clear HB
 have BK338 := n0_
 have HB := n1_
 clear n0_ n1_
 (try clear hb)
 (try clear hb2)
 (try clear hk)
 (try clear hi)
 refine hK.out _ _ (cellsK13 BK338.out) (fun hHeld => ?_)
 clear hK K
 refine norm_ (a' := ?_) ?_ ?_
 rotate_left
 ·show Act.put _ (some 7) _ = _
  simp only [Act.put, sAa, sBb, sCc, i64_w, i32_w]
  rfl
 refine pure_ (i := 5) (N := some 8) (v := ?_) (a' := ?_) #[true, true, true, true, true, true, false, false, false] rfl rfl (any_of HT_.out (by kernel_rfl)) (fun _ _ _ h => h) (Or.inl ⟨by rfl, ?_⟩) ?_ ?_
 rotate_left
 ·intro w'
  go_simp
  with_reducible rfl
 rotate_left
 ·simp only [Act.put, sAa, sBb, sCc, i64_w, i32_w]
  rfl
 refine pure_ (i := 6) (N := some 9) (v := ?_) (a' := ?_) #[true, true, true, true, true, true, true, false, false] rfl rfl (any_of HT_.out (by kernel_rfl)) (fun _ _ _ h => h) (Or.inl ⟨by rfl, ?_⟩) ?_ ?_
 rotate_left
 ·intro w'
  go_simp
  with_reducible rfl
 rotate_left
 ·simp only [Act.put, sAa, sBb, sCc, i64_w, i32_w]
  rfl
 refine pure_ (i := 7) (N := some 10) (v := ?_) (a' := ?_) #[true, true, true, true, true, true, true, true, false] rfl rfl (any_of HT_.out (by kernel_rfl)) (fun _ _ _ h => h) (Or.inl ⟨by rfl, ?_⟩) ?_ ?_
 rotate_left
 ·intro w'
  go_simp
  with_reducible rfl
 rotate_left
 ·simp only [Act.put, sAa, sBb, sCc, i64_w, i32_w]
  rfl
 refine pure_ (i := 8) (N := some 2) (v := ?_) (a' := ?_) #[true, true, true, true, true, true, true, true, true] rfl rfl (any_of HT_.out (by kernel_rfl)) (fun _ _ _ h => h) (Or.inl ⟨by rfl, ?_⟩) ?_ ?_
 rotate_left
 ·intro w'
  go_simp
  with_reducible rfl
 rotate_left
 ·simp only [Act.put, sAa, sBb, sCc, i64_w, i32_w]
  rfl
 refine done_ (done_of HT_.out (by kernel_rfl)) ?_
 try go_wp2
 go_ret
 exact ⟨by first | rfl | (simp [errW_none, errW_some] <;> rfl) | (simp [*, errW_none, errW_some] <;> rfl), by repeat (first | (with_reducible first | exact HB.out | apply below_alloc | apply pw_below_drewN | apply below_drew1 | refine below_set ?_ GE338.out) | exact HB.out)⟩
def dr5_jump.f (l0_0 : List (S68)) (l0_1 : List (S71)) (a0_2 : Int) (a0_3 : Int) (a0_4 : Int) (a0_5 : Int) (a0_6 : Int) (a0_7 : Int) (a0_8 : Int) (a0_9 : Int) (a0_10 : Int) (a0_11 : Int) (a0_12 : Int) : Option (Int) := (dr5_step.f l0_0 l0_1 a0_2 a0_3 a0_4 a0_5 a0_6 a0_7 a0_8 a0_9 a0_10 a0_11 a0_12).bind fun t342 => ((dr5_edge.f l0_0 l0_1 a0_2 a0_3 a0_4 a0_5 a0_6 a0_7 a0_8 a0_9 a0_10 a0_11 a0_12).bind fun t343 => (some (wrap64 ((wrap64 ((wrap64 (2 * a0_8)) * t342)) + (wrap64 (4 * t343))))))
def dr5_jump.T1 : Bool × List (List Nat × List Nat) := (true, [([], []), ([0], [0]), ([1], [1]), ([], []), ([3], [3]), ([2, 4], [2, 4]), ([], []), ([6, 4], [6]), ([7], [7]), ([5, 8], [5, 8]), ([9, 7, 0, 1, 2, 3, 4, 5, 6, 7, 8, 9], [9])])
def dr5_jump.B1 : List Nat := [0, 1, 3, 0, 8, 31, 0, 88, 216, 511, 1023]
theorem dr5_jump.tab1 : rtab .any (opsOf Tryz.f85 1) = dr5_jump.T1 := by kernel_rfl
theorem dr5_jump.bits1 : waitsOk dr5_jump.T1.2 dr5_jump.B1 = true := by kernel_rfl
set_option maxHeartbeats 8000000 in
set_option maxRecDepth 100000 in
theorem dr5_jump.calls (A0_0 : Option Addr) (c0_0 : Nat) (l0_0 : List (S68)) (A0_1 : Option Addr) (c0_1 : Nat) (l0_1 : List (S71)) (a0_2 : Int) (a0_3 : Int) (a0_4 : Int) (a0_5 : Int) (a0_6 : Int) (a0_7 : Int) (a0_8 : Int) (a0_9 : Int) (a0_10 : Int) (a0_11 : Int) (a0_12 : Int) (r : Int) (w : World) (hr0_0 : Kd.C k68 w A0_0 l0_0.length l0_0) (hc0_0 : l0_0.length ≤ c0_0) (hr0_1 : Kd.C k71 w A0_1 l0_1.length l0_1) (hc0_1 : l0_1.length ≤ c0_1) (h : dr5_jump.f l0_0 l0_1 a0_2 a0_3 a0_4 a0_5 a0_6 a0_7 a0_8 a0_9 a0_10 a0_11 a0_12 = some r) :
  Calls Tryz.prog 85 #[.agg #[.slice A0_0 l0_0.length c0_0, .slice A0_1 l0_1.length c0_1, .int .i64 a0_2, .int .i64 a0_3, .int .i64 a0_4, .int .i64 a0_5, .int .i64 a0_6, .int .i64 a0_7, .int .i64 a0_8, .int .i64 a0_9, .int .i64 a0_10, .int .i64 a0_11, .int .i64 a0_12]] w fun e w' => e = .returned (.int .i64 r) ∧ Below w.heap.size w w' := by
 have hu25 := Tryz.underlying25
 have HR0_0 := am hr0_0
 have HC0_0 := am hc0_0
 clear hr0_0 hc0_0
 have HR0_1 := am hr0_1
 have HC0_1 := am hc0_1
 clear hr0_1 hc0_1
 have HB := am (Below.refl w.heap.size w)
 have H : ((dr5_step.f l0_0 l0_1 a0_2 a0_3 a0_4 a0_5 a0_6 a0_7 a0_8 a0_9 a0_10 a0_11 a0_12).bind fun t342 => ((dr5_edge.f l0_0 l0_1 a0_2 a0_3 a0_4 a0_5 a0_6 a0_7 a0_8 a0_9 a0_10 a0_11 a0_12).bind fun t343 => (some (wrap64 ((wrap64 ((wrap64 (2 * a0_8)) * t342)) + (wrap64 (4 * t343))))))) = some r := h
 clear h
 replace H := Option.bind_eq_some_iff.mp H
 obtain ⟨t342, A20, H⟩ := H
 replace H : ((dr5_edge.f l0_0 l0_1 a0_2 a0_3 a0_4 a0_5 a0_6 a0_7 a0_8 a0_9 a0_10 a0_11 a0_12).bind fun t343 => (some (wrap64 ((wrap64 ((wrap64 (2 * a0_8)) * t342)) + (wrap64 (4 * t343)))))) = some r := H
 have A2 := am A20
 clear A20
 replace H := Option.bind_eq_some_iff.mp H
 obtain ⟨t343, A30, H⟩ := H
 replace H : (some (wrap64 ((wrap64 ((wrap64 (2 * a0_8)) * t342)) + (wrap64 (4 * t343))))) = some r := H
 have A3 := am A30
 clear A30
 obtain rfl := Option.some.inj H
 go_enter Tryz.func85, Tryz.ntmps85
 try go_wp2_with (first | ((with_reducible refine gate_dst (N := 1) rfl ?_); refine box_event ?hg (N := 1) ?hd (cs := #[.slice A0_0 l0_0.length c0_0, .slice A0_1 l0_1.length c0_1, .int .i64 a0_2, .int .i64 a0_3, .int .i64 a0_4, .int .i64 a0_5, .int .i64 a0_6, .int .i64 a0_7, .int .i64 a0_8, .int .i64 a0_9, .int .i64 a0_10, .int .i64 a0_11, .int .i64 a0_12]) (t := 25) ?hr ?_; (case hd => rfl); (case hg => rfl); (case hr => first | (go_simp; done) | (go_simp; rfl)); intro gb341 hg w4 hbox hb; have n0_ := am (below_step (by repeat (first | (with_reducible first | exact HB.out | apply below_alloc | apply pw_below_drewN | apply below_drew1) | exact HB.out)) hb); have n1_ := am (hbox); have n2_ := am ((by rw [hg]; exact (below_size (by repeat (first | (with_reducible first | exact HB.out | apply below_alloc | apply pw_below_drewN | apply below_drew1) | exact HB.out))) : w.heap.size ≤ gb341)); have n3_ := am ((by rw [hg]; exact (below_size (by repeat (first | (with_reducible first | exact HB.out | apply below_alloc | apply pw_below_drewN | apply below_drew1) | exact HB.out))) : w.heap.size ≤ gb341)); clear HB; have HB := n0_; have BK341 := n1_; have GW341 := n2_; have GE341 := n3_; clear n0_ n1_ n2_ n3_; clear hb hbox hg))
 have n0_ := am (blk_drew BK341.out)
 have n1_ := am (below_drew1 HB.out)
 clear BK341
 clear HB
 have BK341 := n0_
 have HB := n1_
 clear n0_ n1_
 refine start_ (n := 11) (S := fun w' => w'.cell? ⟨gb341, 0, none⟩ = some (.slice A0_0 l0_0.length c0_0) ∧ w'.cell? ⟨gb341, 1, none⟩ = some (.slice A0_1 l0_1.length c0_1) ∧ w'.cell? ⟨gb341, 2, none⟩ = some (.int .i64 a0_2) ∧ w'.cell? ⟨gb341, 3, none⟩ = some (.int .i64 a0_3) ∧ w'.cell? ⟨gb341, 4, none⟩ = some (.int .i64 a0_4) ∧ w'.cell? ⟨gb341, 5, none⟩ = some (.int .i64 a0_5) ∧ w'.cell? ⟨gb341, 6, none⟩ = some (.int .i64 a0_6) ∧ w'.cell? ⟨gb341, 7, none⟩ = some (.int .i64 a0_7) ∧ w'.cell? ⟨gb341, 8, none⟩ = some (.int .i64 a0_8) ∧ w'.cell? ⟨gb341, 9, none⟩ = some (.int .i64 a0_9) ∧ w'.cell? ⟨gb341, 10, none⟩ = some (.int .i64 a0_10) ∧ w'.cell? ⟨gb341, 11, none⟩ = some (.int .i64 a0_11) ∧ w'.cell? ⟨gb341, 12, none⟩ = some (.int .i64 a0_12)) (ds := []) #[false, false, false, false, false, false, false, false, false, false, false] (by kernel_rfl) rfl rfl (cellsK13 BK341.out) (fun hHeld => ?_); refine with_tabW dr5_jump.tab1 dr5_jump.bits1 (fun HT_ HW_ => ?_)
 generalize w4.drew = w5 at BK341 HB hHeld ⊢
 refine pure_ (i := 0) (N := some 3) (v := ?_) (a' := ?_) #[true, false, false, false, false, false, false, false, false, false, false] rfl rfl (any_of HT_.out (by kernel_rfl)) (fun _ _ _ h => h) (Or.inl ⟨by rfl, ?_⟩) ?_ ?_
 rotate_left
 ·intro w'
  go_simp
  with_reducible rfl
 rotate_left
 ·simp only [Act.put, sAa, sBb, sCc, i64_w, i32_w]
  rfl
 refine take_ (i := 1) (N := some 4) (v := ?_) (a' := ?_) #[true, true, false, false, false, false, false, false, false, false, false] rfl rfl (take_ofW HT_.out HW_.out (by kernel_rfl)) (fun _ _ _ h => h) (Or.inl ⟨by rfl, ?_⟩) hHeld ?_ ?_
 rotate_left
 ·rintro w' ⟨s0, s1, s2, s3, s4, s5, s6, s7, s8, s9, s10, s11, s12⟩
  go_simp
  with_reducible rfl
 rotate_left
 ·simp only [Act.put, sAa, sBb, sCc, i64_w, i32_w]
  rfl
 refine pure_ (i := 2) (N := some 5) (v := ?_) (a' := ?_) #[true, true, true, false, false, false, false, false, false, false, false] rfl rfl (any_of HT_.out (by kernel_rfl)) (fun _ _ _ h => h) (Or.inl ⟨by rfl, ?_⟩) ?_ ?_
 rotate_left
 ·intro w'
  go_simp
  with_reducible rfl
 rotate_left
 ·simp only [Act.put, sAa, sBb, sCc, i64_w, i32_w]
  rfl
 refine take_ (i := 3) (N := some 6) (v := ?_) (a' := ?_) #[true, true, true, true, false, false, false, false, false, false, false] rfl rfl (take_ofW HT_.out HW_.out (by kernel_rfl)) (fun _ _ _ h => h) (Or.inl ⟨by rfl, ?_⟩) hHeld ?_ ?_
 rotate_left
 ·rintro w' ⟨s0, s1, s2, s3, s4, s5, s6, s7, s8, s9, s10, s11, s12⟩
  go_simp
  with_reducible rfl
 rotate_left
 ·simp only [Act.put, sAa, sBb, sCc, i64_w, i32_w]
  rfl
 refine take_ (i := 6) (N := some 9) (v := ?_) (a' := ?_) #[true, true, true, true, false, false, true, false, false, false, false] rfl rfl (take_ofW HT_.out HW_.out (by kernel_rfl)) (fun _ _ _ h => h) (Or.inl ⟨by rfl, ?_⟩) hHeld ?_ ?_
 rotate_left
 ·rintro w' ⟨s0, s1, s2, s3, s4, s5, s6, s7, s8, s9, s10, s11, s12⟩
  go_simp
  with_reducible rfl
 rotate_left
 ·simp only [Act.put, sAa, sBb, sCc, i64_w, i32_w]
  rfl
 refine one_ (i := 4) (N := some 7) #[true, true, true, true, true, false, true, false, false, false, false] rfl rfl (one_of HT_.out (by kernel_rfl)) (by decide) (fun K hK => ?_)
 refine goes_ Tryz.func91 (by kernel_rfl) rfl #[.agg #[.slice A0_0 l0_0.length c0_0, .slice A0_1 l0_1.length c0_1, .int .i64 a0_2, .int .i64 a0_3, .int .i64 a0_4, .int .i64 a0_5, .int .i64 a0_6, .int .i64 a0_7, .int .i64 a0_8, .int .i64 a0_9, .int .i64 a0_10, .int .i64 a0_11, .int .i64 a0_12]] (by rfl) rfl rfl (by (try simp only [List.map_toArray, List.map_cons, List.map_nil]); first | done | rfl | (simp only [List.length_drop, List.length_take]; rfl)) ?_
 with_reducible refine (dr5_step.calls _ _ l0_0 _ _ l0_1 a0_2 a0_3 a0_4 a0_5 a0_6 a0_7 a0_8 a0_9 a0_10 a0_11 a0_12 t342 _ ?side1 ?side2 ?side3 ?side4 A2.out).mono ?_
 (case side1 => repeat (first | exact (Kd.C_below HR0_0.out HB.out) | (with_reducible refine Kd.C_alloc ?_ _) | (with_reducible refine Kd.C_drewN ?_ _) | (with_reducible refine Kd.C_drew ?_)))
 (case side2 => exact HC0_0.out)
 (case side3 => repeat (first | exact (Kd.C_below HR0_1.out HB.out) | (with_reducible refine Kd.C_alloc ?_ _) | (with_reducible refine Kd.C_drewN ?_ _) | (with_reducible refine Kd.C_drew ?_)))
 (case side4 => exact HC0_1.out)
 rintro e w6 ⟨rfl, hb⟩
 refine ⟨_, rfl, ?_⟩
 have n0_ := am (blk_below (g := gb341) (o := .cells #[.slice A0_0 l0_0.length c0_0, .slice A0_1 l0_1.length c0_1, .int .i64 a0_2, .int .i64 a0_3, .int .i64 a0_4, .int .i64 a0_5, .int .i64 a0_6, .int .i64 a0_7, .int .i64 a0_8, .int .i64 a0_9, .int .i64 a0_10, .int .i64 a0_11, .int .i64 a0_12] 25 (0, 0)) (by (with_reducible repeat (first | refine blk_drewN ?_ _ | refine blk_drew ?_ | refine blk_alloc ?_ _)); exact BK341.out) hb)
 have n1_ := am (below_step (by repeat (first | (with_reducible first | exact HB.out | apply below_alloc | apply pw_below_drewN | apply below_drew1 | refine below_set ?_ GE341.out) | exact HB.out)) hb)
 clear BK341
 clear HB
 have BK341 := n0_
 have HB := n1_
 clear n0_ n1_
 (try clear hb)
 (try clear hb2)
 (try clear hk)
 (try clear hi)
 refine hK.out _ _ (cellsK13 BK341.out) (fun hHeld => ?_)
 clear hK K
 refine norm_ (a' := ?_) ?_ ?_
 rotate_left
 ·show Act.put _ (some 7) _ = _
  simp only [Act.put, sAa, sBb, sCc, i64_w, i32_w]
  rfl
 refine pure_ (i := 5) (N := some 8) (v := ?_) (a' := ?_) #[true, true, true, true, true, true, true, false, false, false, false] rfl rfl (any_of HT_.out (by kernel_rfl)) (fun _ _ _ h => h) (Or.inl ⟨by rfl, ?_⟩) ?_ ?_
 rotate_left
 ·intro w'
  go_simp
  with_reducible rfl
 rotate_left
 ·simp only [Act.put, sAa, sBb, sCc, i64_w, i32_w]
  rfl
 refine one_ (i := 7) (N := some 10) #[true, true, true, true, true, true, true, true, false, false, false] rfl rfl (one_of HT_.out (by kernel_rfl)) (by decide) (fun K hK => ?_)
 refine goes_ Tryz.func61 (by kernel_rfl) rfl #[.agg #[.slice A0_0 l0_0.length c0_0, .slice A0_1 l0_1.length c0_1, .int .i64 a0_2, .int .i64 a0_3, .int .i64 a0_4, .int .i64 a0_5, .int .i64 a0_6, .int .i64 a0_7, .int .i64 a0_8, .int .i64 a0_9, .int .i64 a0_10, .int .i64 a0_11, .int .i64 a0_12]] (by rfl) rfl rfl (by (try simp only [List.map_toArray, List.map_cons, List.map_nil]); first | done | rfl | (simp only [List.length_drop, List.length_take]; rfl)) ?_
 with_reducible refine (dr5_edge.calls _ _ l0_0 _ _ l0_1 a0_2 a0_3 a0_4 a0_5 a0_6 a0_7 a0_8 a0_9 a0_10 a0_11 a0_12 t343 _ ?side1 ?side2 ?side3 ?side4 A3.out).mono ?_
 (case side1 => repeat (first | exact (Kd.C_below HR0_0.out HB.out) | (with_reducible refine Kd.C_alloc ?_ _) | (with_reducible refine Kd.C_drewN ?_ _) | (with_reducible refine Kd.C_drew ?_)))
 (case side2 => exact HC0_0.out)
 (case side3 => repeat (first | exact (Kd.C_below HR0_1.out HB.out) | (with_reducible refine Kd.C_alloc ?_ _) | (with_reducible refine Kd.C_drewN ?_ _) | (with_reducible refine Kd.C_drew ?_)))
 (case side4 => exact HC0_1.out)
 rintro e w7 ⟨rfl, hb⟩
 refine ⟨_, rfl, ?_⟩
 have n0_ := am (blk_below (g := gb341) (o := .cells #[.slice A0_0 l0_0.length c0_0, .slice A0_1 l0_1.length c0_1, .int .i64 a0_2, .int .i64 a0_3, .int .i64 a0_4, .int .i64 a0_5, .int .i64 a0_6, .int .i64 a0_7, .int .i64 a0_8, .int .i64 a0_9, .int .i64 a0_10, .int .i64 a0_11, .int .i64 a0_12] 25 (0, 0)) (by (with_reducible repeat (first | refine blk_drewN ?_ _ | refine blk_drew ?_ | refine blk_alloc ?_ _)); exact BK341.out) hb)
 have n1_ := am (below_step (by repeat (first | (with_reducible first | exact HB.out | apply below_alloc | apply pw_below_drewN | apply below_drew1 | refine below_set ?_ GE341.out) | exact HB.out)) hb)
 clear BK341
 clear HB
 have BK341 := n0_
 have HB := n1_
 clear n0_ n1_
 (try clear hb)
 (try clear hb2)
 (try clear hk)
 (try clear hi)
 refine hK.out _ _ (cellsK13 BK341.out) (fun hHeld => ?_)
 clear hK K
 refine norm_ (a' := ?_) ?_ ?_
 rotate_left
 ·show Act.put _ (some 10) _ = _
  simp only [Act.put, sAa, sBb, sCc, i64_w, i32_w]
  rfl
 refine pure_ (i := 8) (N := some 11) (v := ?_) (a' := ?_) #[true, true, true, true, true, true, true, true, true, false, false] rfl rfl (any_of HT_.out (by kernel_rfl)) (fun _ _ _ h => h) (Or.inl ⟨by rfl, ?_⟩) ?_ ?_
 rotate_left
 ·intro w'
  go_simp
  with_reducible rfl
 rotate_left
 ·simp only [Act.put, sAa, sBb, sCc, i64_w, i32_w]
  rfl
 refine pure_ (i := 9) (N := some 12) (v := ?_) (a' := ?_) #[true, true, true, true, true, true, true, true, true, true, false] rfl rfl (any_of HT_.out (by kernel_rfl)) (fun _ _ _ h => h) (Or.inl ⟨by rfl, ?_⟩) ?_ ?_
 rotate_left
 ·intro w'
  go_simp
  with_reducible rfl
 rotate_left
 ·simp only [Act.put, sAa, sBb, sCc, i64_w, i32_w]
  rfl
 refine pure_ (i := 10) (N := some 2) (v := ?_) (a' := ?_) #[true, true, true, true, true, true, true, true, true, true, true] rfl rfl (any_of HT_.out (by kernel_rfl)) (fun _ _ _ h => h) (Or.inl ⟨by rfl, ?_⟩) ?_ ?_
 rotate_left
 ·intro w'
  go_simp
  with_reducible rfl
 rotate_left
 ·simp only [Act.put, sAa, sBb, sCc, i64_w, i32_w]
  rfl
 refine done_ (done_of HT_.out (by kernel_rfl)) ?_
 try go_wp2
 go_ret
 exact ⟨by first | rfl | (simp [errW_none, errW_some] <;> rfl) | (simp [*, errW_none, errW_some] <;> rfl), by repeat (first | (with_reducible first | exact HB.out | apply below_alloc | apply pw_below_drewN | apply below_drew1 | refine below_set ?_ GE341.out) | exact HB.out)⟩
end Go.Proofs.YtbefbhghmommhaaGreatDoor.MWo
