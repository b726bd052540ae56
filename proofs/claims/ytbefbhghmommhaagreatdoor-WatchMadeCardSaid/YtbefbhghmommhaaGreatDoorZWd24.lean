/- Texts of this claim, laid together by a program (wip/g/merge5.py): PuWi, HWm, HWa, MWox54, MWox52, HWc, MWox38, MWox39, MWox40, MWox41, MWox103, MWox104, MWox105, MWox106, PuRt. -/
import Derived.Test.YtbefbhghmommhaaGreatDoorZWd20
import Derived.Test.YtbefbhghmommhaaGreatDoorZWd11
import Derived.Test.YtbefbhghmommhaaGreatDoorZWd21
import Derived.Test.YtbefbhghmommhaaGreatDoorZWd22
import Derived.Test.YtbefbhghmommhaaGreatDoorZWd23
import Derived.Test.YtbefbhghmommhaaGreatDoorZWd4
import Derived.Maps.OwnOps
import Derived.Maps.OwnSet
import Derived.Maps.Views
import Derived.Test.YtbefbhghmommhaaGreatDoorZWd8
import Derived.Test.YtbefbhghmommhaaGreatDoorZWd7
import Derived.Deep.RegionLaw
import Derived.Deep.RegionHeld3
set_option linter.unusedVariables false
set_option linter.unusedSimpArgs false
set_option maxRecDepth 100000
namespace Go.Proofs.YtbefbhghmommhaaGreatDoor.MWo
open Go.RowKit Go.Proofs.YtbefbhghmommhaaGreatDoorW.PrintWords Go.Proofs.YtbefbhghmommhaaGreatDoorW.PrintLast Go.Proofs.YtbefbhghmommhaaGreatDoorW.PrintMore Go.Proofs.YtbefbhghmommhaaGreatDoor.Evl
theorem tceil_eq {d : Int} (h0 : 0 ≤ d) (h1 : d ≤ 1000000000000) : ticks_Ceil.f d 1000000 = some (up d, true) := ceil_eq h0 h1
theorem part_eq {d : Int} (h0 : 0 ≤ d) (h1 : d ≤ 1000000000000) : bounds_part.f d = some (up d) := by
 unfold bounds_part.f; rw [tceil_eq h0 h1]; rfl
theorem ranged_eq (P : List S68) (L : List S71) {a2 a3 a4 a5 a6 a7 a8 a9 a10 a11 a12 : Int} (h1 : 1000 ≤ a2) (h2 : a2 ≤ 1000000) (h3 : 0 ≤ a6) (h4 : a6 ≤ 500) (h5 : 0 ≤ a7) (h6 : a7 ≤ 400000) (h7 : 1 ≤ a8) (h8 : a8 ≤ 200) (h9 : 0 ≤ a9) (h10 : a9 ≤ 20) :
  bounds_ranged.f 100 P L a2 a3 a4 a5 a6 a7 a8 a9 a10 a11 a12 = some 0 := by
 unfold bounds_ranged.f bounds_within.f
 rw [if_pos h1, if_pos h3, if_pos h5, if_pos h7, if_pos h9, dT h2, dT h4, dT h6, dT h8, dT h10]
 have : bounds_first.f 100 1 [true, true, true, true, true] = some 0 := by kernel_rfl
 simp only [Option.bind_some]
 rw [this]
 rfl
def Tk (dr cyc rate : Int) : Int := 2 * Eg dr cyc + Eg dr cyc + up (2 * Eg dr cyc * (rate + dr)) + 1
theorem in_eq (q s : Nat) {a2 a3 a4 a5 a6 a7 a8 a9 a10 a11 a12 : Int} (g1 : 1 ≤ q) (g4 : q ≤ 4) (g3 : s ≤ 3) (h1 : 0 ≤ a6) (h2 : a6 ≤ 140) (h3 : 20000 ≤ a2) (h4 : a2 ≤ 27000) (h5 : 0 ≤ a7) (h6 : a7 ≤ 400000) (h7 : 1 ≤ a8) (h8 : a8 ≤ 200) (h9 : 0 ≤ a9) (h10 : a9 ≤ 20) :
  ∃ b3 b4 b5, bounds_in.f (madeNet q s).1 (madeNet q s).2 a2 a3 a4 a5 a6 a7 a8 a9 a10 a11 a12 = some (Eg a6 a2, 2 * Eg a6 a2, b3, b4, b5, Tk a6 a2 a7, wrap64 (a8 + 1)) := by
 have hb := dc_bd h1 h2 h3 h4
 have he := Eg_bd h1 h2 h3 h4
 unfold bounds_in.f
 rw [right_made a2 a3 a4 a5 a6 a7 a8 a9 a10 a11 a12 q s g1 g4 g3]
 simp only [Option.bind_some, if_true]
 rw [ranged_eq _ _ (by omega) (by omega) h1 (by omega) h5 h6 h7 h8 h9 h10]
 simp only [Option.bind_some, if_true]
 unfold bounds_Reckon.f
 rw [show wrap64 (2 * a6) = 2 * a6 by unfold wrap64; omega, show wrap64 (2 * a6 * a2) = 2 * a6 * a2 by unfold wrap64; omega, part_eq (by omega) (by omega)]
 simp only [Option.bind_some]
 rw [show wrap64 (a6 * a2) = a6 * a2 by unfold wrap64; omega, part_eq (by omega) (by omega)]
 simp only [Option.bind_some]
 have e1 : up (2 * a6 * a2) + 1 = Eg a6 a2 := rfl
 have hm : 0 ≤ 2 * Eg a6 a2 * (a7 + a6) ∧ 2 * Eg a6 a2 * (a7 + a6) ≤ 18 * (a7 + a6) := ⟨Int.mul_nonneg (by omega) (by omega), Int.mul_le_mul_of_nonneg_right (by omega) (by omega)⟩
 rw [e1, show wrap64 (Eg a6 a2) = Eg a6 a2 by unfold wrap64; omega, show wrap64 (2 * Eg a6 a2) = 2 * Eg a6 a2 by unfold wrap64; omega, show wrap64 (a7 + a6) = a7 + a6 by unfold wrap64; omega, show wrap64 (2 * Eg a6 a2 * (a7 + a6)) = 2 * Eg a6 a2 * (a7 + a6) by unfold wrap64; omega, part_eq (by omega) (by omega)]
 simp only [Option.bind_some]
 have hu : 0 ≤ up (2 * Eg a6 a2 * (a7 + a6)) ∧ up (2 * Eg a6 a2 * (a7 + a6)) ≤ 100 := by unfold up; omega
 rw [show wrap64 (2 * Eg a6 a2 + Eg a6 a2) = 2 * Eg a6 a2 + Eg a6 a2 by unfold wrap64; omega, show wrap64 (2 * Eg a6 a2 + Eg a6 a2 + up (2 * Eg a6 a2 * (a7 + a6))) = 2 * Eg a6 a2 + Eg a6 a2 + up (2 * Eg a6 a2 * (a7 + a6)) by unfold wrap64; omega, show wrap64 (2 * Eg a6 a2 + Eg a6 a2 + up (2 * Eg a6 a2 * (a7 + a6)) + 1) = Tk a6 a2 a7 by unfold Tk wrap64; omega]
 exact ⟨_, _, _, rfl⟩
theorem near_evl (q s : Nat) {a2 a3 a4 a5 a6 a7 a8 a9 a10 a11 a12 : Int} (g1 : 1 ≤ q) (g4 : q ≤ 4) (g3 : s ≤ 3) (h1 : 0 ≤ a6) (h2 : a6 ≤ 140) (h3 : 20000 ≤ a2) (h4 : a2 ≤ 27000) (h5 : 0 ≤ a7) (h6 : a7 ≤ 400000) (h7 : 1 ≤ a8) (h8 : a8 ≤ 200) (h9 : 0 ≤ a9) (h10 : a9 ≤ 20) :
  bounds_Near.f (madeNet q s).1 (madeNet q s).2 a2 a3 a4 a5 a6 a7 a8 a9 a10 a11 a12 = some (2 * Eg a6 a2) := by
 obtain ⟨b3, b4, b5, hi⟩ := in_eq q s (a3 := a3) (a4 := a4) (a5 := a5) (a10 := a10) (a11 := a11) (a12 := a12) g1 g4 g3 h1 h2 h3 h4 h5 h6 h7 h8 h9 h10
 unfold bounds_Near.f
 rw [hi]
 rfl
theorem rnear_evl (q s : Nat) {a2 a3 a4 a5 a6 a7 a8 a9 a10 a11 a12 : Int} (g1 : 1 ≤ q) (g4 : q ≤ 4) (g3 : s ≤ 3) (h1 : 0 ≤ a6) (h2 : a6 ≤ 140) (h3 : 20000 ≤ a2) (h4 : a2 ≤ 27000) (h5 : 0 ≤ a7) (h6 : a7 ≤ 400000) (h7 : 1 ≤ a8) (h8 : a8 ≤ 200) (h9 : 0 ≤ a9) (h10 : a9 ≤ 20) :
  dr5_Near.f (madeNet q s).1 (madeNet q s).2 a2 a3 a4 a5 a6 a7 a8 a9 a10 a11 a12 = some (2 * Eg a6 a2) := by
 have he := Eg_bd h1 h2 h3 h4
 unfold dr5_Near.f
 rw [Edge_eq q s g1 g4 g3 h1 h2 h3 h4 h5 h6 h7 h8 h9 h10]
 show some (wrap64 (2 * Eg a6 a2)) = _
 rw [show wrap64 (2 * Eg a6 a2) = 2 * Eg a6 a2 by unfold wrap64; omega]
def withinV (nr : Int) (l : List S55) (L : List Int) : Bool := if agreeB l = true then (if L = [] then true else if (sprd L).2 = true then decide ((sprd L).1 ≤ nr) else false) else false
def begs (l : List S55) (on : Bool) (st : Int) : List Int := if on = true then (syn l).map (·.f3) ++ [st] else (syn l).map (·.f3)
theorem rwithin_evl {l : List S55} (hl : l.length ≤ 1000) (hx : ∀ x ∈ l, x.f5.length ≤ 1000000) (P : List S68) (Q : List S71) (a2 a3 a4 a5 a6 a7 a8 a9 a10 a11 a12 : Int) (on : Bool) (st : Int) (ag : List Int) {nr : Int}
  (hn : dr5_Near.f P Q a2 a3 a4 a5 a6 a7 a8 a9 a10 a11 a12 = some nr) :
  Evl (fun k => dr26_Within.f k P Q a2 a3 a4 a5 a6 a7 a8 a9 a10 a11 a12 l on st ag) (withinV nr l (begs l on st)) := by
 unfold dr26_Within.f
 have h0 := syn_len l
 refine Evl.bind (rsynced_evl (by omega) on st ag) ?_
 refine Evl.bind (rstarts_evl (by omega)) ?_
 have h1 : ((syn l).map (·.f3)).length ≤ 1000 := by rw [List.length_map]; omega
 have hA : dr26_Agree.f l on st ag = some (agreeB l) := if_pos ⟨hl, List.all_eq_true.2 fun x h => dT (hx x h)⟩
 have h2 : (syn l).map (·.f3) = [] → agreeB l = true := fun h => by
  have : syn l = [] := List.map_eq_nil_iff.1 h
  unfold agreeB; rw [this]
 unfold begs
 generalize (syn l).map (·.f3) = X at h1 h2 ⊢
 have tail : ∀ L : List Int, L.length ≤ 1001 → (L = [] → agreeB l = true) → Evl (fun k => dr26_Within.j0 k L P Q a2 a3 a4 a5 a6 a7 a8 a9 a10 a11 a12 l on st ag) (withinV nr l L) := by
  intro L hL hE
  refine Evl.succ ?_
  simp only [dr26_Within.j0]
  unfold withinV
  by_cases h0 : L = []
  ·rw [if_pos (hE h0), if_pos h0]
   subst h0
   simp only [List.length_nil, Int.ofNat_zero, if_true]
   exact Evl.now fun _ => rfl
  ·have hp := List.length_pos_iff.2 h0
   simp only [if_neg (show ¬ ((L.length : Int) = 0) by omega), if_neg h0]
   refine Evl.bind (rspread_evl (by omega)) ?_
   simp only [hA, Option.bind_some]
   by_cases ha : agreeB l = true
   ·simp only [if_pos ha]
    by_cases hs : (sprd L).2 = true
    ·simp only [if_pos hs]
     simp only [hn, Option.bind_some]
     exact Evl.now fun _ => rfl
    ·simp only [if_neg hs]
     exact Evl.now fun _ => rfl
   ·simp only [if_neg ha]
    exact Evl.now fun _ => rfl
 cases on with
 | true =>
  simp only [if_true, if_pos (show X.length < 17592186044416 by omega)]
  exact tail (X ++ [st]) (by simp; omega) (fun h => by simp at h)
 | false =>
  simp only [show (false = true) = False by simp, if_false]
  exact tail X (by omega) h2
set_option linter.unusedVariables false
set_option linter.unusedSimpArgs false
set_option maxRecDepth 100000
open Go.RowKit Go.Maps Go.Proofs.YtbefbhghmommhaaGreatDoorW.PrintWords Go.Proofs.YtbefbhghmommhaaGreatDoorW.PrintLast Go.Proofs.YtbefbhghmommhaaGreatDoorW.PrintMore
theorem keyI : Keyed Tryz.prog 3 := int_keyed Tryz.underlying3
theorem zeroL (w : World) : (zeroValue 2).run Tryz.prog w = .ok (.int .i64 0) w := by kernel_rfl
def Mp (w : World) (b n : Nat) (g : Int → Int) : Prop :=
 ∃ D : DataW Unit, w.ownsMap Tryz.prog 3 (plainElem Tryz.prog 2) b n D ∧ ∀ q, (Lit.int .i64 q).wf = true → D.atKey (.int .i64 q) (.lit (.int .i64 0)) = .lit (.int .i64 (g q))
def upd (g : Int → Int) (k v : Int) : Int → Int := fun q => if q = k then v else g q
theorem Mp.made (w : World) : Mp (w.alloc (.map #[] 0)) w.heap.size 0 (fun _ => 0) := ⟨.map [], World.ownsMap_made _ _ _ _, fun _ _ => rfl⟩
theorem Mp.look {w : World} {b n : Nat} {g : Int → Int} (h : Mp w b n g) {q : Int} (hq : (Lit.int .i64 q).wf = true) :
  (Instr.lookup 83 (.map (some b)) (.int .i64 q) false).run Tryz.prog w = .ok (.int .i64 (g q)) w := by
 obtain ⟨D, hD, hg⟩ := h
 obtain ⟨c, hrun, hat, _⟩ := hD.lookup_int keyI Tryz.underlying83 Tryz.underlying2 (zeroL _) (keyOf_int_mk Tryz.underlying3 hq)
 have := hat.symm.trans (hg q hq)
 injection this with e
 injection e with _ e2
 rw [hrun, e2]
theorem Mp.put {w : World} {b n : Nat} {g : Int → Int} (h : Mp w b n g) (hn : n < maxLen) {q v : Int} (hq : (Lit.int .i64 q).wf = true) (hv : (Lit.int .i64 v).wf = true) :
  ∃ w', (Instr.mapUpdate 83 (.map (some b)) (.int .i64 q) (.int .i64 v)).run Tryz.prog w = .ok () w' ∧ Mp w' b (n + 1) (upd g q v) ∧ w.grownBy w' (some b) := by
 obtain ⟨D, hD, hg⟩ := h
 obtain ⟨w', hrun, h1, h2⟩ := hD.update keyI Tryz.underlying83 hn (keyOf_int_mk Tryz.underlying3 hq) (plainElem_int (H := Unit) Tryz.underlying2 hv)
 refine ⟨w', hrun, ⟨_, h1, fun k hk => ?_⟩, h2⟩
 unfold upd
 by_cases e : k = q
 ·subst e
  rw [if_pos rfl]
  exact atKey_put_same hD.isMap (show WideAt.IsKeyLit (.int .i64 k) from trivial) _ _
 ·rw [if_neg e, atKey_put_other (by intro h; injection h with _ h; exact e h)]
  exact hg k hk
theorem Mp.grown {w w1 : World} {b n : Nat} {g : Int → Int} {row : Option Nat} (h : Mp w b n g) (hg : w.grownBy w1 row) (hne : some b ≠ row) : Mp w1 b n g := by
 obtain ⟨D, hD, h2⟩ := h
 exact ⟨D, hD.kept hg hne, h2⟩
theorem Mp.lt {w : World} {b n : Nat} {g : Int → Int} (h : Mp w b n g) : b < w.heap.size := by
 obtain ⟨D, hD, _⟩ := h
 exact hD.lt
structure S52 where
 f0 : Int
 f1 : Int
 f2 : Bool
 f3 : List Int
def z52 : S52 := ⟨0, 0, false, []⟩
def rd_T52 (xs : List S52) (i : Int) : S52 := xs.getD i.toNat z52
def ordM : (Int → Int) → List S52 → Bool
 | _, [] => true
 | g, x :: t => if x.f1 ≤ g x.f0 then false else if (x.f2 != (wrap64 (x.f1 - 1) != g x.f0)) = true then false else ordM (upd g x.f0 x.f1) t
def lgk : Kd S52 where
 sz := 4
 E := []
 K := fun _ x cs => ∃ A n c, cs = [.int .i64 x.f0, .int .i64 x.f1, .bool x.f2, .slice A n c]
 M := fun _ _ _ x cs => ∃ A n c, cs = [.int .i64 x.f0, .int .i64 x.f1, .bool x.f2, .slice A n c]
 K_len := by rintro w x cs ⟨_, _, _, rfl⟩; rfl
 K_one := by rintro w x cs ⟨_, _, _, rfl⟩ u hu; simp at hu; rcases hu with rfl | rfl | rfl | rfl <;> rfl
 K_below := fun _ h => h
 K_of_M := fun h => h
 M_mono := fun _ h => h
 M_bound := fun h => h
 M_move := fun _ h => h
 M_lower := fun _ h => h
theorem at_lgk {w : World} {A : Option Addr} {n : Nat} {xs : List S52} (h : Kd.C lgk w A n xs) (i : Nat) (h1 : i < n) : ∃ ad A3 n3 c3, A = some ad ∧ w.cell? (ad.add (i * 4)) = some (.int .i64 (rd_T52 xs i).f0) ∧ w.cell? ⟨(ad.add (i * 4)).block, (ad.add (i * 4)).off + 1, none⟩ = some (.int .i64 (rd_T52 xs i).f1) ∧ w.cell? ⟨(ad.add (i * 4)).block, (ad.add (i * 4)).off + 2, none⟩ = some (.bool (rd_T52 xs i).f2) ∧ w.cell? ⟨(ad.add (i * 4)).block, (ad.add (i * 4)).off + 3, none⟩ = some (.slice A3 n3 c3) := by
 obtain ⟨ad, c, e, _, hK, hc0⟩ := Kd.C_get h z52 (i : Int) (by omega) (by omega)
 simp only [Int.toNat_natCast] at hc0
 have hc : ∀ j u, c[j]? = some u → w.cell? (ad.add (i * 4 + j)) = some u := hc0
 obtain ⟨A3, n3, c3, rfl⟩ := hK
 exact ⟨ad, A3, n3, c3, e, hc 0 _ rfl, by rw [← add_field _ _ 1 (by omega)]; exact hc 1 _ rfl, by rw [← add_field _ _ 2 (by omega)]; exact hc 2 _ rfl, by rw [← add_field _ _ 3 (by omega)]; exact hc 3 _ rfl⟩
set_option maxHeartbeats 4000000 in
theorem order_walk (A : Option Addr) (c : Nat) (l : List S52) (w : World) (hr : Kd.C lgk w A l.length l) (hl : l.length ≤ 100000) (hwf : ∀ x ∈ l, (Lit.int .i64 x.f0).wf = true ∧ (Lit.int .i64 x.f1).wf = true) :
  Calls Tryz.prog 22 #[.slice A l.length c] w fun e w' => e = .returned (.bool (ordM (fun _ => 0) l)) ∧ Below w.heap.size w w' := by
 have HR := am hr
 have HW := am hwf
 have hmm := @run_makeMap Tryz.prog
 obtain ⟨Z, hZ⟩ : ∃ Z, ordM (fun _ => 0) l = Z := ⟨_, rfl⟩
 rw [hZ]
 have HZ := am hZ
 clear hr hwf hZ
 go_enter Tryz.func22, Tryz.ntmps22
 go_wp2_with fail
 go_loopg [9] (l.length + 1) (fun kq v9 wr => ∃ (k : Nat) (g : Int → Int), Aside0 (k ≤ l.length ∧ kq = l.length + 1 - k) ∧ v9 = .int .i64 k ∧ Aside0 (Mp wr w.heap.size k g) ∧ Aside0 (Below w.heap.size w wr) ∧ Aside0 (ordM g (l.drop k) = Z))
 case atStart => exact ⟨0, fun _ => 0, ⟨Nat.zero_le _, rfl⟩, rfl, ⟨Mp.made w⟩, ⟨below_alloc (Below.refl _ _) _⟩, HZ⟩
 case round =>
  clear HZ
  obtain ⟨k, g, HK, rfl, HM, HB, HZ⟩ := hrel
  by_cases hk : k < l.length
  ·have hd : decide ((k : Int) < (l.length : Int)) = true := dT (by omega)
   obtain ⟨ad, A3, n3, c3, e3, h0, h1, h2, h3⟩ := at_lgk (Kd.C_below HR.out HB.out) k hk
   cases e3
   have hx : rd_T52 l (k : Int) = l[k] := by simp [rd_T52, hk]
   have hdr : l.drop k = l[k] :: l.drop (k + 1) := by rw [List.drop_eq_getElem_cons hk]
   have hw := HW.out l[k] (List.getElem_mem hk)
   rw [hx] at h0 h1 h2
   have HZ2 : Aside0 (ordM g (l[k] :: l.drop (k + 1)) = Z) := ⟨by rw [← hdr]; exact HZ.out⟩
   have p0_ := eq_true (show (0 : Int) ≤ (k : Int) by omega)
   have p0c : (k : Int) < (l.length : Int) := by omega
   clear HZ hdr hx
   generalize l[k] = x at *
   go_upto_region 5 with fail
   have kb := below_alloc (Below.refl wr.heap.size wr) (.cells #[.int .i64 x.f0, .int .i64 x.f1, .bool x.f2, .slice A3 n3 c3] 52)
   have HX := am (heap_alloc_new wr (.cells #[.int .i64 x.f0, .int .i64 x.f1, .bool x.f2, .slice A3 n3 c3] 52))
   have HM1 := am (HM.out.grown (World.grownBy_alloc wr (.cells #[.int .i64 x.f0, .int .i64 x.f1, .bool x.f2, .slice A3 n3 c3] 52) none) (by simp))
   have HB1 := am (below_step HB.out kb)
   have HLM := am HM.out.lt
   clear kb h0 h1 h2 h3 HM HB
   generalize wr.alloc (.cells #[.int .i64 x.f0, .int .i64 x.f1, .bool x.f2, .slice A3 n3 c3] 52) = w1 at *
   generalize wr.heap.size = xb at *
   have c1 : w1.cell? ⟨xb, 1, none⟩ = some (.int .i64 x.f1) := (blk_cell HX.out 1).trans rfl
   have c0 : w1.cell? ⟨xb, 0, none⟩ = some (.int .i64 x.f0) := (blk_cell HX.out 0).trans rfl
   have c2 : w1.cell? ⟨xb, 2, none⟩ = some (.bool x.f2) := (blk_cell HX.out 2).trans rfl
   have hlk := HM1.out.look hw.1
   by_cases hle : x.f1 ≤ g x.f0
   ·have hd1 : decide (x.f1 ≤ g x.f0) = true := dT hle
    have HE : Aside0 (Z = false) := ⟨by rw [← HZ2.out]; exact if_pos hle⟩
    go_wp2_with fail
    go_ret
    rw [HE.out]
    exact ⟨rfl, HB1.out⟩
   ·have hd1 : decide (x.f1 ≤ g x.f0) = false := dF hle
    by_cases hg : (x.f2 != (wrap64 (x.f1 - 1) != g x.f0)) = true
    ·have HE : Aside0 (Z = false) := ⟨by rw [← HZ2.out]; exact (if_neg hle).trans (if_pos hg)⟩
     have hg2 : (!x.f2 == (wrap64 (x.f1 - 1) != g x.f0)) = true := by rw [← hg]; cases x.f2 <;> cases (wrap64 (x.f1 - 1) != g x.f0) <;> rfl
     go_wp2_with fail
     go_ret
     rw [HE.out]
     exact ⟨rfl, HB1.out⟩
    ·have hg2 : (!x.f2 == (wrap64 (x.f1 - 1) != g x.f0)) = false := by
      have hg1 : (x.f2 != (wrap64 (x.f1 - 1) != g x.f0)) = false := by simpa using hg
      rw [← hg1]; cases x.f2 <;> cases (wrap64 (x.f1 - 1) != g x.f0) <;> rfl
     have hg0 : (x.f2 != (wrap64 (x.f1 - 1) != g x.f0)) = false := by simpa using hg
     have HZ3 : Aside0 (ordM (upd g x.f0 x.f1) (l.drop (k + 1)) = Z) := ⟨by rw [← HZ2.out]; exact ((if_neg hle).trans (if_neg hg)).symm⟩
     obtain ⟨w2, hmu, hM2, hg2⟩ := HM1.out.put (by have := HK.out; unfold maxLen; omega) hw.1 hw.2
     have HM2 := am hM2
     have HB2 := am (HB1.out.grown hg2 HB1.out.size (fun j hj => by cases hj; exact Nat.le_refl _))
     clear hM2 hg2 HM1
     cases gk with
     | zero => exact absurd HK.out (by omega)
     | succ k1 =>
     go_wp2_with fail
     go_roundg k1
     case measure => have := HK.out; omega
     case rel => exact ⟨k + 1, _, ⟨by omega, by have := HK.out; omega⟩, rfl, HM2, HB2, HZ3⟩
  ·have hd : decide ((k : Int) < (l.length : Int)) = false := dF (by omega)
   have HE : Aside0 (Z = true) := ⟨by rw [← HZ.out, List.drop_eq_nil_iff.2 (by omega)]; rfl⟩
   go_wp2_with fail
   go_ret
   rw [HE.out]
   exact ⟨rfl, HB.out⟩
theorem gspread_nil (A : Option Addr) (c : Nat) (w : World) : Calls Tryz.prog 32 #[.slice A 0 c] w fun e w' => e = .returned (.tuple #[.int .i64 0, .bool false]) ∧ w' = w := by
 go_enter Tryz.func32, Tryz.ntmps32
 go_wp2
 go_ret2
 exact ⟨rfl, rfl⟩
theorem index_nil (A : Option Addr) (c : Nat) (v : Value) (w : World) : Calls Tryz.prog 53 #[.slice A 0 c, v] w fun e w' => e = .returned (.int .i64 (-1)) ∧ w' = w := by
 go_enter Tryz.func53, Tryz.ntmps53
 go_wp2
 refine wp_loop_rounds 1 ?_
 rw [rounds_succ]
 go_wp2
 go_ret
 exact ⟨rfl, rfl⟩
theorem contains_nil (A : Option Addr) (c : Nat) (v : Value) (w : World) : Calls Tryz.prog 26 #[.slice A 0 c, v] w fun e w' => e = .returned (.bool false) ∧ w' = w := by
 go_enter Tryz.func26, Tryz.ntmps26
 go_wp2_with fail
 refine (index_nil A c v w).mono ?_
 rintro e w1 ⟨rfl, rfl⟩
 go_wp2_with fail
 go_ret
 exact ⟨rfl, rfl⟩
theorem spread_nil (w : World) : Calls Tryz.prog 16 #[.agg #[.slice none 0 0, .bool false, .int .i64 0, .slice none 0 0]] w fun e w' => e = .returned (.tuple #[.int .i64 0, .bool false]) ∧ Below w.heap.size w w' := by
 go_enter Tryz.func16, Tryz.ntmps16
 go_wp2_with fail
 have HB := am (below_alloc (Below.refl w.heap.size w) (.cells #[.slice none 0 0, .bool false, .int .i64 0, .slice none 0 0] 37))
 refine (watch_starts.calls 9 none 0 [] false 0 none 0 [] [] _ (Kd.C_nil _ _) (Nat.le_refl _) (Kd.C_nil _ _) (Nat.le_refl _) rfl).mono ?_
 rintro e w1 ⟨v, rfl, ho, hb⟩
 obtain ⟨A, c, rfl⟩ := Kd.R_slice ho
 have HB1 := am (below_step HB.out hb)
 clear ho hb
 go_wp2_with fail
 refine (gspread_nil A c w1).mono ?_
 rintro e w2 ⟨rfl, rfl⟩
 go_wp2_with fail
 go_ret2
 exact ⟨rfl, HB1.out⟩
theorem agree_nil (w : World) : Calls Tryz.prog 20 #[.agg #[.slice none 0 0, .bool false, .int .i64 0, .slice none 0 0]] w fun e w' => e = .returned (.bool true) ∧ Below w.heap.size w w' := by
 go_enter Tryz.func20, Tryz.ntmps20
 go_wp2_with fail
 have HB := am (below_alloc (Below.refl w.heap.size w) (.cells #[.slice none 0 0, .bool false, .int .i64 0, .slice none 0 0] 37))
 refine (watch_synced.calls 9 (fun _ => False) none 0 [] false 0 none 0 [] [] _ (Kd.V_nil _ _ _ _ _) (Kd.C_nil _ _) (Nat.le_refl _) rfl).mono ?_
 rintro e w1 ⟨v, rfl, ho, hb⟩
 obtain ⟨A, c, rfl⟩ := Kd.N_slice ho
 have HB1 := am (below_step HB.out hb)
 clear ho hb
 go_wp2_with fail
 have HB2 := am (below_alloc HB1.out (.cells #[.slice A ([] : List S55).length c] 32))
 refine (contains_nil A c _ _).mono ?_
 rintro e w2 ⟨rfl, rfl⟩
 go_wp2_with fail
 go_ret
 exact ⟨rfl, HB2.out⟩
theorem base_nil (w : World) : Calls Tryz.prog 9 #[.agg #[.slice none 0 0, .slice none 0 0, .int .i64 0, .int .i64 0, .int .i64 0, .int .i64 0, .int .i64 0, .int .i64 0, .int .i64 0, .int .i64 0, .int .i64 0, .int .i64 0, .int .i64 0], .slice none 0 0] w fun e w' => e = .returned (.tuple #[.int .i64 (-1), .bool false]) ∧ Below w.heap.size w w' := by
 go_enter Tryz.func9, Tryz.ntmps9
 go_wp2_with fail
 refine wp_loop_rounds 1 ?_
 rw [rounds_succ]
 go_wp2_with fail
 go_ret2
 exact ⟨rfl, by repeat (first | exact Below.refl _ _ | apply below_alloc)⟩
theorem one_got (w : World) (a b : Int) (g : Bool) : Kd.C lgk (w.alloc (.cells #[.int .i64 a, .int .i64 b, .bool g, .slice none 0 0] 52)) (some ⟨w.heap.size, 0, none⟩) [(⟨a, b, g, []⟩ : S52)].length [⟨a, b, g, []⟩] := by
 have hb := heap_alloc_new w (.cells #[.int .i64 a, .int .i64 b, .bool g, .slice none 0 0] 52)
 refine ⟨rfl, (show (1 : Nat) ≤ 9223372036854775807 by decide), fun _ => ⟨_, rfl, fun j p hp => ?_⟩⟩
 cases j with
 | zero =>
  simp only [List.getElem?_cons_zero, Option.some.injEq] at hp
  subst hp
  refine ⟨[.int .i64 a, .int .i64 b, .bool g, .slice none 0 0], rfl, ⟨none, 0, 0, rfl⟩, fun i u hu => ?_⟩
  have e : (⟨w.heap.size, 0, none⟩ : Addr).add (0 * lgk.sz + i) = ⟨w.heap.size, i, none⟩ := by rw [Nat.zero_mul, Nat.zero_add, add_at, Nat.zero_add]
  rw [e]
  exact (blk_cell hb i).trans (by rw [← hu]; simp)
 | succ j => simp at hp
theorem alive_walk (w : World) : Calls Tryz.prog 7 #[] w fun e w' => e = .returned (.bool true) ∧ Below w.heap.size w w' := by
 go_enter Tryz.func7, Tryz.ntmps7
 go_wp2_with fail
 refine (spread_nil _).mono ?_
 rintro e w1 ⟨rfl, hb⟩
 have HB1 := am hb
 clear hb
 go_wp2_with fail
 refine (base_nil _).mono ?_
 rintro e w2 ⟨rfl, hb⟩
 have HB2 := am (below_step HB1.out hb)
 clear hb
 go_wp2_with fail
 refine (agree_nil _).mono ?_
 rintro e w3 ⟨rfl, hb⟩
 have HB3 := am (below_step HB2.out hb)
 clear hb
 go_wp2_with fail
 have HA4 := am (below_alloc HB3.out (.cells #[.int .i64 1, .int .i64 2, .bool true, .slice none 0 0] 52))
 refine (order_walk (some ⟨w3.heap.size, 0, none⟩) 1 [⟨1, 2, true, []⟩] _ (one_got w3 1 2 true) (by decide) (by simp; decide)).mono ?_
 rintro e w4 ⟨rfl, hb⟩
 rw [show ordM (fun _ => 0) [⟨1, 2, true, []⟩] = true by simp [ordM, wrap64]]
 have HB4 := am (below_step HA4.out hb)
 clear hb
 go_wp2_with fail
 have HA5 := am (below_alloc HB4.out (.cells #[.int .i64 1, .int .i64 2, .bool false, .slice none 0 0] 52))
 refine (order_walk (some ⟨w4.heap.size, 0, none⟩) 1 [⟨1, 2, false, []⟩] _ (one_got w4 1 2 false) (by decide) (by simp; decide)).mono ?_
 rintro e w5 ⟨rfl, hb⟩
 have HB5 := am (below_step HA5.out hb)
 clear hb
 rw [show ordM (fun _ => 0) [⟨1, 2, false, []⟩] = false by simp [ordM, wrap64]]
 go_wp2_with fail
 go_ret
 exact ⟨rfl, HB5.out⟩
end Go.Proofs.YtbefbhghmommhaaGreatDoor.MWo

namespace Go.Proofs.YtbefbhghmommhaaGreatDoor.MWo
open Go.RowKit Go.Proofs.YtbefbhghmommhaaGreatDoorW.PrintWords Go.Proofs.YtbefbhghmommhaaGreatDoorW.PrintLast Go.Proofs.YtbefbhghmommhaaGreatDoorW.PrintMore
attribute [local go_sem] mp_u32s mp_u32m mp_u8s mp_u8m max2_int min2_int max_two min_two max_three min_three max_four min_four
set_option linter.unusedVariables false
set_option linter.unusedSimpArgs false
def watch_Agree.f (l0_0 : List S55) (a0_1 : Bool) (a0_2 : Int) (l0_3 : List Int) : Option Bool := if l0_0.length ≤ 1000000 ∧ (l0_0.all fun x => decide (x.f5.length ≤ 1000000)) = true then some (agreeB l0_0) else none
theorem watch_Agree.calls (A0_0 : Option Addr) (c0_0 : Nat) (l0_0 : List S55) (a0_1 : Bool) (a0_2 : Int) (A0_3 : Option Addr) (c0_3 : Nat) (l0_3 : List Int) (r : Bool) (w : World) (hr0_0 : Kd.C k55 w A0_0 l0_0.length l0_0) (hc0_0 : l0_0.length ≤ c0_0) (hr0_3 : Kd.C (Kd.int .i64) w A0_3 l0_3.length l0_3) (hc0_3 : l0_3.length ≤ c0_3) (h : watch_Agree.f l0_0 a0_1 a0_2 l0_3 = some r) :
  Calls Tryz.prog 20 #[.agg #[.slice A0_0 l0_0.length c0_0, .bool a0_1, .int .i64 a0_2, .slice A0_3 l0_3.length c0_3]] w fun e w' => e = .returned (.bool r) ∧ Below w.heap.size w w' := by
 unfold watch_Agree.f at h
 split at h
 ·rename_i hc
  injection h with h
  subst h
  exact agree_walk A0_0 c0_0 l0_0 a0_1 a0_2 A0_3 c0_3 l0_3 w hr0_0 hc0_0 hr0_3 hc0_3 hc.1 (fun x hx => oT (List.all_eq_true.mp hc.2 x hx))
 ·cases h
end Go.Proofs.YtbefbhghmommhaaGreatDoor.MWo
set_option linter.unusedVariables false
set_option linter.unusedSimpArgs false
set_option maxRecDepth 100000
namespace Go.Proofs.YtbefbhghmommhaaGreatDoor.MWo
open Go.RowKit Go.Proofs.YtbefbhghmommhaaGreatDoorW.PrintWords Go.Proofs.YtbefbhghmommhaaGreatDoorW.PrintLast Go.Proofs.YtbefbhghmommhaaGreatDoorW.PrintMore Go.Proofs.YtbefbhghmommhaaGreatDoor.Evl
structure CellAt (w : World) (x : S37) (A : Option Addr) (c : Nat) (A3 : Option Addr) (c3 : Nat) : Prop where
 r0 : Kd.C k55 w A x.f0.length x.f0
 c0 : x.f0.length ≤ c
 r3 : Kd.C (Kd.int .i64) w A3 x.f1.f2.length x.f1.f2
 c3 : x.f1.f2.length ≤ c3
theorem CellAt.below {w w1 : World} {x : S37} {A : Option Addr} {c : Nat} {A3 : Option Addr} {c3 : Nat} (h : CellAt w x A c A3 c3) (k : Below w.heap.size w w1) : CellAt w1 x A c A3 c3 :=
 ⟨Kd.C_below h.r0 k, h.c0, Kd.C_below h.r3 k, h.c3⟩
abbrev cellV (x : S37) (A : Option Addr) (c : Nat) (A3 : Option Addr) (c3 : Nat) : Array Value := #[.slice A x.f0.length c, .bool x.f1.f0, .int .i64 x.f1.f1, .slice A3 x.f1.f2.length c3]
structure NetAt (w : World) (P : List S68) (AP : Option Addr) (cP : Nat) (Q : List S71) (AQ : Option Addr) (cQ : Nat) : Prop where
 p : Kd.C k68 w AP P.length P
 cp : P.length ≤ cP
 q : Kd.C k71 w AQ Q.length Q
 cq : Q.length ≤ cQ
theorem NetAt.below {w w1 : World} {P : List S68} {AP : Option Addr} {cP : Nat} {Q : List S71} {AQ : Option Addr} {cQ : Nat} (h : NetAt w P AP cP Q AQ cQ) (k : Below w.heap.size w w1) : NetAt w1 P AP cP Q AQ cQ :=
 ⟨Kd.C_below h.p k, h.cp, Kd.C_below h.q k, h.cq⟩
end Go.Proofs.YtbefbhghmommhaaGreatDoor.MWo
namespace Go.Proofs.YtbefbhghmommhaaGreatDoor.MWo
open Go.RowKit Go.Proofs.YtbefbhghmommhaaGreatDoorW.PrintWords Go.Proofs.YtbefbhghmommhaaGreatDoorW.PrintLast Go.Proofs.YtbefbhghmommhaaGreatDoorW.PrintMore
attribute [local go_sem] mp_u32s mp_u32m mp_u8s mp_u8m max2_int min2_int max_two min_two max_three min_three max_four min_four
set_option linter.unusedVariables false
set_option linter.unusedSimpArgs false
def ages_at.f (l0 : List Int) (a1 : Int) (a2 : Int) : Option (Int) := if a1 < 0 then (some a2) else (if a1 ≥ (l0.length : Int) then (some a2) else (if 0 ≤ a1 then (if a1 < (l0.length : Int) then (some (mn (mx (rd l0 a1) 0) a2)) else (none)) else (none)))
set_option maxHeartbeats 8000000 in
set_option maxRecDepth 100000 in
theorem ages_at.calls (A0 : Option Addr) (c0 : Nat) (l0 : List Int) (a1 : Int) (a2 : Int) (r : Int) (w : World) (hr0 : Kd.C (Kd.int .i64) w A0 l0.length l0) (hc0 : l0.length ≤ c0) (h : ages_at.f l0 a1 a2 = some r) :
  Calls Tryz.prog 67 #[.slice A0 l0.length c0, .int .i64 a1, .int .i64 a2] w fun e w' => e = .returned (.int .i64 r) ∧ Below w.heap.size w w' := by
 have HR0 := am hr0
 have HC0 := am hc0
 clear hr0 hc0
 have HB := am (Below.refl w.heap.size w)
 have H : (if a1 < 0 then (some a2) else (if a1 ≥ (l0.length : Int) then (some a2) else (if 0 ≤ a1 then (if a1 < (l0.length : Int) then (some (mn (mx (rd l0 a1) 0) a2)) else (none)) else (none)))) = some r := h
 clear h
 by_cases c4 : a1 < 0
 ·rw [if_pos c4] at H
  have c4b0 : decide (a1 < 0) = true := dT c4
  clear c4
  obtain rfl := Option.some.inj H
  go_enter Tryz.func67, Tryz.ntmps67
  go_wp2
  go_ret
  exact ⟨ew, bl0⟩
 ·rw [if_neg c4] at H
  have c4b0 : decide (a1 < 0) = false := dF c4
  clear c4
  by_cases c5 : a1 ≥ (l0.length : Int)
  ·rw [if_pos c5] at H
   have c5b0 : decide ((l0.length : Int) ≤ a1) = true := dT c5
   clear c5
   obtain rfl := Option.some.inj H
   go_enter Tryz.func67, Tryz.ntmps67
   go_wp2
   go_ret
   exact ⟨ew, bl0⟩
  ·rw [if_neg c5] at H
   have c5b0 : decide ((l0.length : Int) ≤ a1) = false := dF c5
   clear c5
   by_cases c6 : 0 ≤ a1
   ·rw [if_pos c6] at H
    have c6b0 : decide (0 ≤ a1) = true := dT c6
    clear c6
    by_cases c7 : a1 < (l0.length : Int)
    ·rw [if_pos c7] at H
     have c7b0 : decide (a1 < (l0.length : Int)) = true := dT c7
     clear c7
     obtain ⟨ji8, hji8⟩ : ∃ j_ : Int, (mx (rd l0 a1) 0) = j_ := ⟨_, rfl⟩
     replace H : (some (mn (ji8) a2)) = some r := by first | (rw [hji8] at H; exact H) | (simp only [hji8] at H ⊢; exact H)
     (try (have hji8l : 0 ≤ ji8 := by (rw [← hji8]; unfold mx; (repeat' split) <;> omega)))
     (try (have hji8m : 0 ≤ ji8 := by omega))
     have hji8_ : (if (rd l0 a1) < 0 then 0 else (rd l0 a1)) = ji8 := hji8
     obtain ⟨ji9, hji9⟩ : ∃ j_ : Int, (mn (ji8) a2) = j_ := ⟨_, rfl⟩
     replace H : (some ji9) = some r := by first | (rw [hji9] at H; exact H) | (simp only [hji9] at H ⊢; exact H)
     have hji9_ : (if a2 < (ji8) then a2 else (ji8)) = ji9 := hji9
     obtain rfl := Option.some.inj H
     have p163 : 0 ≤ (a1 : Int) := oT asm
     have q163 : a1 < (l0.length : Int) := oT asm
     obtain ⟨ad163, e163, hx163_0⟩ := Kd.at_int HR0.out a1 p163 q163
     cases e163
     replace p163 := eq_true p163
     replace q163 := eq_true q163
     go_enter Tryz.func67, Tryz.ntmps67
     go_wp2
     go_ret
     exact ⟨by first | rfl | (simp [errW_none, errW_some] <;> rfl) | (simp only [← hji8, ← hji9]; first | rfl | (simp [errW_none, errW_some] <;> rfl)) | (simp [*, errW_none, errW_some] <;> rfl), bl0⟩
    ·rw [if_neg c7] at H
     exact absurd H (by simp)
   ·rw [if_neg c6] at H
    exact absurd H (by simp)
def ages_bound.f (a0 : Int) : Option (Int) := some (mn (mx a0 0) 201)
set_option maxHeartbeats 8000000 in
set_option maxRecDepth 100000 in
theorem ages_bound.calls (a0 : Int) (r : Int) (w : World) (h : ages_bound.f a0 = some r) :
  Calls Tryz.prog 68 #[.int .i64 a0] w fun e w' => e = .returned (.int .i64 r) ∧ Below w.heap.size w w' := by
 have HB := am (Below.refl w.heap.size w)
 have H : (some (mn (mx a0 0) 201)) = some r := h
 clear h
 obtain ⟨ji2, hji2⟩ : ∃ j_ : Int, (mx a0 0) = j_ := ⟨_, rfl⟩
 replace H : (some (mn (ji2) 201)) = some r := by first | (rw [hji2] at H; exact H) | (simp only [hji2] at H ⊢; exact H)
 (try (have hji2l : 0 ≤ ji2 := by (rw [← hji2]; unfold mx; (repeat' split) <;> omega)))
 (try (have hji2m : 0 ≤ ji2 := by omega))
 have hji2_ : (if a0 < 0 then 0 else a0) = ji2 := hji2
 obtain ⟨ji3, hji3⟩ : ∃ j_ : Int, (mn (ji2) 201) = j_ := ⟨_, rfl⟩
 replace H : (some ji3) = some r := by first | (rw [hji3] at H; exact H) | (simp only [hji3] at H ⊢; exact H)
 have hji3_ : (if 201 < (ji2) then 201 else (ji2)) = ji3 := hji3
 obtain rfl := Option.some.inj H
 go_enter Tryz.func68, Tryz.ntmps68
 go_wp2
 go_ret
 exact ⟨by first | rfl | (simp [errW_none, errW_some] <;> rfl) | (simp only [← hji2, ← hji3]; first | rfl | (simp [errW_none, errW_some] <;> rfl)) | (simp [*, errW_none, errW_some] <;> rfl), bl0⟩
def ages_Alive.l0 : Nat → List Int → Int → Int → Int → Int → Option (Int)
 | 0, _, _, _, _, _ => none
 | k + 1, x0, x1, x5, x9, x10 => if x10 < x9 then ((ages_bound.f x1).bind fun t164 => ((ages_at.f x0 x10 t164).bind fun t165 => ((ages_bound.f x1).bind fun t166 => (if t165 < t166 then (if 0 ≤ x10 then (ages_Alive.l0 k x0 x1 (Go.bits .or .i64 x5 (shl .i64 1 x10)) x9 (wrap64 (x10 + 1))) else (none)) else (ages_Alive.l0 k x0 x1 x5 x9 (wrap64 (x10 + 1))))))) else (some x5)
def ages_Alive.f (k : Nat) (l0 : List Int) (a1 : Int) : Option (Int) := ages_Alive.l0 k l0 a1 0 (mn (l0.length : Int) 6) 0
set_option maxHeartbeats 8000000 in
set_option maxRecDepth 100000 in
theorem ages_Alive.calls (k : Nat) (A0 : Option Addr) (c0 : Nat) (l0 : List Int) (a1 : Int) (r : Int) (w : World) (hr0 : Kd.C (Kd.int .i64) w A0 l0.length l0) (hc0 : l0.length ≤ c0) (h : ages_Alive.f k l0 a1 = some r) :
  Calls Tryz.prog 52 #[.slice A0 l0.length c0, .int .i64 a1] w fun e w' => e = .returned (.int .i64 r) ∧ Below w.heap.size w w' := by
 have HR0 := am hr0
 have HC0 := am hc0
 clear hr0 hc0
 have HB := am (Below.refl w.heap.size w)
 have H : (ages_Alive.l0 k l0 a1 0 (mn (l0.length : Int) 6) 0) = some r := h
 clear h
 obtain ⟨ji3, hji3⟩ : ∃ j_ : Int, (mn (l0.length : Int) 6) = j_ := ⟨_, rfl⟩
 replace H : (ages_Alive.l0 k l0 a1 0 ji3 0) = some r := by first | (rw [hji3] at H; exact H) | (simp only [hji3] at H ⊢; exact H)
 (try (have hji3h : ji3 ≤ 6 := by (rw [← hji3]; unfold mn; (repeat' split) <;> omega)))
 (try (have hji3g : ji3 ≤ 64 := by omega))
 (try (have hji3l : 0 ≤ ji3 := by (rw [← hji3]; unfold mn; (repeat' split) <;> omega)))
 (try (have hji3m : 0 ≤ ji3 := by omega))
 have hji3_ : (if 6 < (l0.length : Int) then 6 else (l0.length : Int)) = ji3 := hji3
 have H' := am H
 clear H
 go_enter Tryz.func52, Tryz.ntmps52
 go_wp2
 go_loopg [5, 10] k (fun kq v5 v10 w' => ∃ (x5_1 : Int) (x10_1 : Int), v5 = .int .i64 x5_1 ∧ v10 = .int .i64 x10_1 ∧ Aside0 (ages_Alive.l0 kq l0 a1 x5_1 ji3 x10_1 = some r) ∧ Aside0 (kq ≤ k) ∧ Aside0 (Below w.heap.size w w'))
 case atStart => exact ⟨(0), (0), bx, bx, H', ⟨Nat.le_refl _⟩, ⟨bl0⟩⟩
 case round =>
  clear H'
  try clear p2
  obtain ⟨x5_1, x10_1, rfl, rfl, HA, HK1, HB⟩ := hrel
  cases gk with
  | zero => exact absurd HA.out (by simp [ages_Alive.l0])
  | succ k1 =>
   have H := HA.out
   clear HA
   simp only [ages_Alive.l0] at H
   by_cases c4 : x10_1 < ji3
   ·rw [if_pos c4] at H
    have c4b0 : decide (x10_1 < ji3) = true := dT c4
    clear c4
    replace H := bS H
    obtain ⟨t164, A50, H⟩ := H
    replace H : ((ages_at.f l0 x10_1 t164).bind fun t165 => ((ages_bound.f a1).bind fun t166 => (if t165 < t166 then (if 0 ≤ x10_1 then (ages_Alive.l0 k1 l0 a1 (Go.bits .or .i64 x5_1 (shl .i64 1 x10_1)) ji3 (wrap64 (x10_1 + 1))) else (none)) else (ages_Alive.l0 k1 l0 a1 x5_1 ji3 (wrap64 (x10_1 + 1)))))) = some r := H
    have A5 := am A50
    clear A50
    replace H := bS H
    obtain ⟨t165, A60, H⟩ := H
    replace H : ((ages_bound.f a1).bind fun t166 => (if t165 < t166 then (if 0 ≤ x10_1 then (ages_Alive.l0 k1 l0 a1 (Go.bits .or .i64 x5_1 (shl .i64 1 x10_1)) ji3 (wrap64 (x10_1 + 1))) else (none)) else (ages_Alive.l0 k1 l0 a1 x5_1 ji3 (wrap64 (x10_1 + 1))))) = some r := H
    have A6 := am A60
    clear A60
    replace H := bS H
    obtain ⟨t166, A70, H⟩ := H
    replace H : (if t165 < t166 then (if 0 ≤ x10_1 then (ages_Alive.l0 k1 l0 a1 (Go.bits .or .i64 x5_1 (shl .i64 1 x10_1)) ji3 (wrap64 (x10_1 + 1))) else (none)) else (ages_Alive.l0 k1 l0 a1 x5_1 ji3 (wrap64 (x10_1 + 1)))) = some r := H
    have A7 := am A70
    clear A70
    by_cases c8 : t165 < t166
    ·rw [if_pos c8] at H
     have c8b0 : decide (t165 < t166) = true := dT c8
     clear c8
     by_cases c9 : 0 ≤ x10_1
     ·rw [if_pos c9] at H
      have c9b0 := eq_true c9
      have c9b1 : decide (0 ≤ x10_1) = true := dT c9
      clear c9
      obtain ⟨ji10, hji10⟩ : ∃ j_ : Int, (shl .i64 1 x10_1) = j_ := ⟨_, rfl⟩
      replace H : (ages_Alive.l0 k1 l0 a1 (Go.bits .or .i64 x5_1 (ji10)) ji3 (wrap64 (x10_1 + 1))) = some r := by first | (rw [hji10] at H; exact H) | (simp only [hji10] at H ⊢; exact H)
      (try rw [hji10] at A5)
      (try rw [hji10] at A6)
      (try rw [hji10] at A7)
      have hji10_ : (IntKind.i64.wrap (1 * 2 ^ min x10_1.toNat 64)) = ji10 := hji10
      have hji10z : x10_1 ≤ 64 → (IntKind.i64.wrap (1 * 2 ^ x10_1.toNat)) = ji10 := shl_small hji10
      have hji10u : (IntKind.i64.wrap (2 ^ min x10_1.toNat 64)) = ji10 := by have h_ := hji10_; rw [Int.one_mul] at h_; exact h_
      have hji10v : x10_1 ≤ 64 → (IntKind.i64.wrap (2 ^ x10_1.toNat)) = ji10 := fun hle_ => by have h_ := hji10z hle_; rw [Int.one_mul] at h_; exact h_
      have hji10y : (wrap64 (1 * 2 ^ min x10_1.toNat 64)) = ji10 := (i64_w _).symm.trans hji10_
      have hji10x : x10_1 ≤ 64 → (wrap64 (1 * 2 ^ x10_1.toNat)) = ji10 := fun h_ => (i64_w _).symm.trans (hji10z h_)
      have H' := am H
      clear H
      go_wp2_with (first | ((with_reducible refine gate_callee (f := 68) rfl ?_); refine goesL_ (some 16) rfl rfl Tryz.func68 (by kernel_rfl) rfl #[.int .i64 a1] rfl lm ?_; (with_reducible refine (ages_bound.calls a1 t164 _ A5.out).mono ?_); rintro e w11 ⟨rfl, hb⟩; refine ⟨_, rfl, ?_⟩; have n0_ := am (below_step bl0 hb); clear HB; have HB := n0_; clear n0_; (try clear hb); (try clear hb2); (try clear hk); (try clear hi)) | ((with_reducible refine gate_callee (f := 67) rfl ?_); refine goesL_ (some 17) rfl rfl Tryz.func67 (by kernel_rfl) rfl #[.slice A0 l0.length c0, .int .i64 x10_1, .int .i64 t164] rfl lm ?_; (with_reducible refine (ages_at.calls _ _ l0 x10_1 t164 t165 _ ?side1 ?side2 A6.out).mono ?_); (case side1 => exact kc HR0); (case side2 => exact HC0.out); rintro e w12 ⟨rfl, hb⟩; refine ⟨_, rfl, ?_⟩; have n0_ := am (below_step bl0 hb); clear HB; have HB := n0_; clear n0_; (try clear hb); (try clear hb2); (try clear hk); (try clear hi)) | ((with_reducible refine gate_callee (f := 68) rfl ?_); refine goesL_ (some 19) rfl rfl Tryz.func68 (by kernel_rfl) rfl #[.int .i64 a1] rfl lm ?_; (with_reducible refine (ages_bound.calls a1 t166 _ A7.out).mono ?_); rintro e w13 ⟨rfl, hb⟩; refine ⟨_, rfl, ?_⟩; have n0_ := am (below_step bl0 hb); clear HB; have HB := n0_; clear n0_; (try clear hb); (try clear hb2); (try clear hk); (try clear hi)))
      go_roundg k1
      case measure => have := HK1.out; omega
      case rel => exact ⟨(Go.bits .or .i64 x5_1 (ji10)), (wrap64 (x10_1 + 1)), (by first | rfl | (simp; done) | (simp only [← hji10] <;> (first | rfl | simp)) | (simp [*]; done)), bx, H', ⟨by have := HK1.out; omega⟩, ⟨bl0⟩⟩
     ·rw [if_neg c9] at H
      exact absurd H (by simp)
    ·rw [if_neg c8] at H
     have c8b0 : decide (t165 < t166) = false := dF c8
     clear c8
     have H' := am H
     clear H
     go_wp2_with (first | ((with_reducible refine gate_callee (f := 68) rfl ?_); refine goesL_ (some 16) rfl rfl Tryz.func68 (by kernel_rfl) rfl #[.int .i64 a1] rfl lm ?_; (with_reducible refine (ages_bound.calls a1 t164 _ A5.out).mono ?_); rintro e w14 ⟨rfl, hb⟩; refine ⟨_, rfl, ?_⟩; have n0_ := am (below_step bl0 hb); clear HB; have HB := n0_; clear n0_; (try clear hb); (try clear hb2); (try clear hk); (try clear hi)) | ((with_reducible refine gate_callee (f := 67) rfl ?_); refine goesL_ (some 17) rfl rfl Tryz.func67 (by kernel_rfl) rfl #[.slice A0 l0.length c0, .int .i64 x10_1, .int .i64 t164] rfl lm ?_; (with_reducible refine (ages_at.calls _ _ l0 x10_1 t164 t165 _ ?side1 ?side2 A6.out).mono ?_); (case side1 => exact kc HR0); (case side2 => exact HC0.out); rintro e w15 ⟨rfl, hb⟩; refine ⟨_, rfl, ?_⟩; have n0_ := am (below_step bl0 hb); clear HB; have HB := n0_; clear n0_; (try clear hb); (try clear hb2); (try clear hk); (try clear hi)) | ((with_reducible refine gate_callee (f := 68) rfl ?_); refine goesL_ (some 19) rfl rfl Tryz.func68 (by kernel_rfl) rfl #[.int .i64 a1] rfl lm ?_; (with_reducible refine (ages_bound.calls a1 t166 _ A7.out).mono ?_); rintro e w16 ⟨rfl, hb⟩; refine ⟨_, rfl, ?_⟩; have n0_ := am (below_step bl0 hb); clear HB; have HB := n0_; clear n0_; (try clear hb); (try clear hb2); (try clear hk); (try clear hi)))
     go_roundg k1
     case measure => have := HK1.out; omega
     case rel => exact ⟨(x5_1), (wrap64 (x10_1 + 1)), bx, bx, H', ⟨by have := HK1.out; omega⟩, ⟨bl0⟩⟩
   ·rw [if_neg c4] at H
    have c4b0 : decide (x10_1 < ji3) = false := dF c4
    clear c4
    obtain rfl := Option.some.inj H
    go_wp2
    go_ret
    exact ⟨by first | rfl | (simp [errW_none, errW_some] <;> rfl) | (simp only [← hji3]; first | rfl | (simp [errW_none, errW_some] <;> rfl)) | (simp [*, errW_none, errW_some] <;> rfl), bl0⟩
def ages_Root.l0 : Nat → Int → Int → Option (Int)
 | 0, _, _ => none
 | k + 1, x5, x10 => if x10 < 6 then (if 0 ≤ x10 then (if (Go.bits .and .i64 (shr .i64 x5 x10) 1) = 1 then (some x10) else (ages_Root.l0 k x5 (wrap64 (x10 + 1)))) else (none)) else (some (-1))
def ages_Root.f (k : Nat) (l0 : List Int) (a1 : Int) : Option (Int) := (ages_Alive.f k l0 a1).bind fun t167 => (ages_Root.l0 k t167 0)
set_option maxHeartbeats 8000000 in
set_option maxRecDepth 100000 in
theorem ages_Root.calls (k : Nat) (A0 : Option Addr) (c0 : Nat) (l0 : List Int) (a1 : Int) (r : Int) (w : World) (hr0 : Kd.C (Kd.int .i64) w A0 l0.length l0) (hc0 : l0.length ≤ c0) (h : ages_Root.f k l0 a1 = some r) :
  Calls Tryz.prog 25 #[.slice A0 l0.length c0, .int .i64 a1] w fun e w' => e = .returned (.int .i64 r) ∧ Below w.heap.size w w' := by
 have HR0 := am hr0
 have HC0 := am hc0
 clear hr0 hc0
 have HB := am (Below.refl w.heap.size w)
 have H : ((ages_Alive.f k l0 a1).bind fun t167 => (ages_Root.l0 k t167 0)) = some r := h
 clear h
 replace H := bS H
 obtain ⟨t167, A30, H⟩ := H
 replace H : (ages_Root.l0 k t167 0) = some r := H
 have A3 := am A30
 clear A30
 have H' := am H
 clear H
 go_enter Tryz.func25, Tryz.ntmps25
 go_wp2_with (first | ((with_reducible refine gate_callee (f := 52) rfl ?_); refine goesL_ (some 9) rfl rfl Tryz.func52 (by kernel_rfl) rfl #[.slice A0 l0.length c0, .int .i64 a1] rfl lm ?_; (with_reducible refine (ages_Alive.calls k _ _ l0 a1 t167 _ ?side1 ?side2 A3.out).mono ?_); (case side1 => repeat (first | exact HR0.out | (with_reducible refine Kd.C_alloc ?_ _) | (with_reducible refine Kd.C_drewN ?_ _) | (with_reducible refine Kd.C_drew ?_))); (case side2 => exact HC0.out); rintro e w4 ⟨rfl, hb⟩; refine ⟨_, rfl, ?_⟩; have n0_ := am (below_step bl0 hb); clear HB; have HB := n0_; clear n0_; (try clear hb); (try clear hb2); (try clear hk); (try clear hi)))
 go_loopg [10] k (fun kq v10 w' => ∃ (x10_1 : Int), v10 = .int .i64 x10_1 ∧ Aside0 (ages_Root.l0 kq t167 x10_1 = some r) ∧ Aside0 (kq ≤ k) ∧ Aside0 (Below w.heap.size w w'))
 case atStart => exact ⟨(0), bx, H', ⟨Nat.le_refl _⟩, ⟨bl0⟩⟩
 case round =>
  clear H'
  try clear c2
  try clear p2
  obtain ⟨x10_1, rfl, HA, HK1, HB⟩ := hrel
  cases gk with
  | zero => exact absurd HA.out (by simp [ages_Root.l0])
  | succ k1 =>
   have H := HA.out
   clear HA
   simp only [ages_Root.l0] at H
   by_cases c5 : x10_1 < 6
   ·rw [if_pos c5] at H
    have c5b0 : decide (x10_1 < 6) = true := dT c5
    clear c5
    by_cases c6 : 0 ≤ x10_1
    ·rw [if_pos c6] at H
     have c6b0 := eq_true c6
     have c6b1 : decide (0 ≤ x10_1) = true := dT c6
     clear c6
     obtain ⟨ji7, hji7⟩ : ∃ j_ : Int, (shr .i64 t167 x10_1) = j_ := ⟨_, rfl⟩
     replace H : (if (Go.bits .and .i64 (ji7) 1) = 1 then (some x10_1) else (ages_Root.l0 k1 t167 (wrap64 (x10_1 + 1)))) = some r := by first | (rw [hji7] at H; exact H) | (simp only [hji7] at H ⊢; exact H)
     have hji7_ : (t167 / 2 ^ min x10_1.toNat 64) = ji7 := hji7
     have hji7z : x10_1 ≤ 64 → (t167 / 2 ^ x10_1.toNat) = ji7 := shr_small hji7
     by_cases c8 : (Go.bits .and .i64 (ji7) 1) = 1
     ·rw [if_pos c8] at H
      have c8b0 : ((Go.bits .and .i64 (ji7) 1) == 1) = true := beq_iff_eq.mpr c8
      have c8b1 : ((Go.bits .and .i64 (ji7) 1) != 1) = false := bne_eq_false_iff_eq.mpr c8
      clear c8
      obtain rfl := Option.some.inj H
      go_wp2
      go_ret
      exact ⟨by first | rfl | (simp [errW_none, errW_some] <;> rfl) | (simp only [← hji7]; first | rfl | (simp [errW_none, errW_some] <;> rfl)) | (simp [*, errW_none, errW_some] <;> rfl), bl0⟩
     ·rw [if_neg c8] at H
      have c8b0 : ((Go.bits .and .i64 (ji7) 1) == 1) = false := beq_eq_false_iff_ne.mpr c8
      have c8b1 : ((Go.bits .and .i64 (ji7) 1) != 1) = true := bne_iff_ne.mpr c8
      have H' := am H
      clear H
      go_wp2
      go_roundg k1
      case measure => have := HK1.out; omega
      case rel => exact ⟨(wrap64 (x10_1 + 1)), bx, H', ⟨by have := HK1.out; omega⟩, ⟨bl0⟩⟩
    ·rw [if_neg c6] at H
     exact absurd H (by simp)
   ·rw [if_neg c5] at H
    have c5b0 : decide (x10_1 < 6) = false := dF c5
    clear c5
    obtain rfl := Option.some.inj H
    go_wp2
    go_ret
    exact ⟨ew, bl0⟩
def dr10_bound.f (a0 : Int) : Option (Int) := some (mn (mx a0 0) 201)
set_option maxHeartbeats 8000000 in
set_option maxRecDepth 100000 in
theorem dr10_bound.calls (a0 : Int) (r : Int) (w : World) (h : dr10_bound.f a0 = some r) :
  Calls Tryz.prog 69 #[.int .i64 a0] w fun e w' => e = .returned (.int .i64 r) ∧ Below w.heap.size w w' := by
 have HB := am (Below.refl w.heap.size w)
 have H : (some (mn (mx a0 0) 201)) = some r := h
 clear h
 obtain ⟨ji2, hji2⟩ : ∃ j_ : Int, (mx a0 0) = j_ := ⟨_, rfl⟩
 replace H : (some (mn (ji2) 201)) = some r := by first | (rw [hji2] at H; exact H) | (simp only [hji2] at H ⊢; exact H)
 (try (have hji2l : 0 ≤ ji2 := by (rw [← hji2]; unfold mx; (repeat' split) <;> omega)))
 (try (have hji2m : 0 ≤ ji2 := by omega))
 have hji2_ : (if a0 < 0 then 0 else a0) = ji2 := hji2
 obtain ⟨ji3, hji3⟩ : ∃ j_ : Int, (mn (ji2) 201) = j_ := ⟨_, rfl⟩
 replace H : (some ji3) = some r := by first | (rw [hji3] at H; exact H) | (simp only [hji3] at H ⊢; exact H)
 have hji3_ : (if 201 < (ji2) then 201 else (ji2)) = ji3 := hji3
 obtain rfl := Option.some.inj H
 go_enter Tryz.func69, Tryz.ntmps69
 go_wp2
 go_ret
 exact ⟨by first | rfl | (simp [errW_none, errW_some] <;> rfl) | (simp only [← hji2, ← hji3]; first | rfl | (simp [errW_none, errW_some] <;> rfl)) | (simp [*, errW_none, errW_some] <;> rfl), bl0⟩
def dr10_age.f (l0 : List Int) (a1 : Int) (a2 : Int) : Option (Int) := if a1 < 0 then (some a2) else (if a1 ≥ (l0.length : Int) then (some a2) else (if 0 ≤ a1 then (if a1 < (l0.length : Int) then (some (mn (mx (rd l0 a1) 0) a2)) else (none)) else (none)))
set_option maxHeartbeats 8000000 in
set_option maxRecDepth 100000 in
theorem dr10_age.calls (A0 : Option Addr) (c0 : Nat) (l0 : List Int) (a1 : Int) (a2 : Int) (r : Int) (w : World) (hr0 : Kd.C (Kd.int .i64) w A0 l0.length l0) (hc0 : l0.length ≤ c0) (h : dr10_age.f l0 a1 a2 = some r) :
  Calls Tryz.prog 70 #[.slice A0 l0.length c0, .int .i64 a1, .int .i64 a2] w fun e w' => e = .returned (.int .i64 r) ∧ Below w.heap.size w w' := by
 have HR0 := am hr0
 have HC0 := am hc0
 clear hr0 hc0
 have HB := am (Below.refl w.heap.size w)
 have H : (if a1 < 0 then (some a2) else (if a1 ≥ (l0.length : Int) then (some a2) else (if 0 ≤ a1 then (if a1 < (l0.length : Int) then (some (mn (mx (rd l0 a1) 0) a2)) else (none)) else (none)))) = some r := h
 clear h
 by_cases c4 : a1 < 0
 ·rw [if_pos c4] at H
  have c4b0 : decide (a1 < 0) = true := dT c4
  clear c4
  obtain rfl := Option.some.inj H
  go_enter Tryz.func70, Tryz.ntmps70
  go_wp2
  go_ret
  exact ⟨ew, bl0⟩
 ·rw [if_neg c4] at H
  have c4b0 : decide (a1 < 0) = false := dF c4
  clear c4
  by_cases c5 : a1 ≥ (l0.length : Int)
  ·rw [if_pos c5] at H
   have c5b0 : decide ((l0.length : Int) ≤ a1) = true := dT c5
   clear c5
   obtain rfl := Option.some.inj H
   go_enter Tryz.func70, Tryz.ntmps70
   go_wp2
   go_ret
   exact ⟨ew, bl0⟩
  ·rw [if_neg c5] at H
   have c5b0 : decide ((l0.length : Int) ≤ a1) = false := dF c5
   clear c5
   by_cases c6 : 0 ≤ a1
   ·rw [if_pos c6] at H
    have c6b0 : decide (0 ≤ a1) = true := dT c6
    clear c6
    by_cases c7 : a1 < (l0.length : Int)
    ·rw [if_pos c7] at H
     have c7b0 : decide (a1 < (l0.length : Int)) = true := dT c7
     clear c7
     obtain ⟨ji8, hji8⟩ : ∃ j_ : Int, (mx (rd l0 a1) 0) = j_ := ⟨_, rfl⟩
     replace H : (some (mn (ji8) a2)) = some r := by first | (rw [hji8] at H; exact H) | (simp only [hji8] at H ⊢; exact H)
     (try (have hji8l : 0 ≤ ji8 := by (rw [← hji8]; unfold mx; (repeat' split) <;> omega)))
     (try (have hji8m : 0 ≤ ji8 := by omega))
     have hji8_ : (if (rd l0 a1) < 0 then 0 else (rd l0 a1)) = ji8 := hji8
     obtain ⟨ji9, hji9⟩ : ∃ j_ : Int, (mn (ji8) a2) = j_ := ⟨_, rfl⟩
     replace H : (some ji9) = some r := by first | (rw [hji9] at H; exact H) | (simp only [hji9] at H ⊢; exact H)
     have hji9_ : (if a2 < (ji8) then a2 else (ji8)) = ji9 := hji9
     obtain rfl := Option.some.inj H
     have p483 : 0 ≤ (a1 : Int) := oT asm
     have q483 : a1 < (l0.length : Int) := oT asm
     obtain ⟨ad483, e483, hx483_0⟩ := Kd.at_int HR0.out a1 p483 q483
     cases e483
     replace p483 := eq_true p483
     replace q483 := eq_true q483
     go_enter Tryz.func70, Tryz.ntmps70
     go_wp2
     go_ret
     exact ⟨by first | rfl | (simp [errW_none, errW_some] <;> rfl) | (simp only [← hji8, ← hji9]; first | rfl | (simp [errW_none, errW_some] <;> rfl)) | (simp [*, errW_none, errW_some] <;> rfl), bl0⟩
    ·rw [if_neg c7] at H
     exact absurd H (by simp)
   ·rw [if_neg c6] at H
    exact absurd H (by simp)
mutual
def dr10_Alive.l0 : Nat → List Int → Int → Int → Int → Option (Int)
 | 0, _, _, _, _ => none
 | k + 1, x0, x5, x6, x7 => if x7 < (x0.length : Int) then (dr10_Alive.j1 k x0 x5 x6 x7 (decide (x7 < 6))) else (dr10_Alive.j1 k x0 x5 x6 x7 false)
def dr10_Alive.j1 : Nat → List Int → Int → Int → Int → Bool → Option (Int)
 | 0, _, _, _, _, _ => none
 | k + 1, x0, x5, x6, x7, x17 => if x17 = true then ((dr10_age.f x0 x7 x6).bind fun t485 => (if t485 < x6 then (if 0 ≤ (IntKind.u64.wrap (x7)) then (dr10_Alive.l0 k x0 (Go.bits .or .i64 x5 (shl .i64 1 (IntKind.u64.wrap (x7)))) x6 (wrap64 (x7 + 1))) else (none)) else (dr10_Alive.l0 k x0 x5 x6 (wrap64 (x7 + 1))))) else (some x5)
end
def dr10_Alive.f (k : Nat) (l0 : List Int) (a1 : Int) : Option (Int) := (dr10_bound.f a1).bind fun t484 => (dr10_Alive.l0 k l0 0 t484 0)
set_option maxHeartbeats 8000000 in
set_option maxRecDepth 100000 in
theorem dr10_Alive.calls (k : Nat) (A0 : Option Addr) (c0 : Nat) (l0 : List Int) (a1 : Int) (r : Int) (w : World) (hr0 : Kd.C (Kd.int .i64) w A0 l0.length l0) (hc0 : l0.length ≤ c0) (h : dr10_Alive.f k l0 a1 = some r) :
  Calls Tryz.prog 54 #[.slice A0 l0.length c0, .int .i64 a1] w fun e w' => e = .returned (.int .i64 r) ∧ Below w.heap.size w w' := by
 have HR0 := am hr0
 have HC0 := am hc0
 clear hr0 hc0
 have HB := am (Below.refl w.heap.size w)
 have H : ((dr10_bound.f a1).bind fun t484 => (dr10_Alive.l0 k l0 0 t484 0)) = some r := h
 clear h
 replace H := bS H
 obtain ⟨t484, A30, H⟩ := H
 replace H : (dr10_Alive.l0 k l0 0 t484 0) = some r := H
 have A3 := am A30
 clear A30
 have H' := am H
 clear H
 go_enter Tryz.func54, Tryz.ntmps54
 go_wp2_with (first | ((with_reducible refine gate_callee (f := 69) rfl ?_); refine goesL_ (some 9) rfl rfl Tryz.func69 (by kernel_rfl) rfl #[.int .i64 a1] rfl lm ?_; (with_reducible refine (dr10_bound.calls a1 t484 _ A3.out).mono ?_); rintro e w4 ⟨rfl, hb⟩; refine ⟨_, rfl, ?_⟩; have n0_ := am (below_step bl0 hb); clear HB; have HB := n0_; clear n0_; (try clear hb); (try clear hb2); (try clear hk); (try clear hi)))
 go_loopg [5, 7] k (fun kq v5 v7 w' => ∃ (x5_1 : Int) (x7_1 : Int), v5 = .int .i64 x5_1 ∧ v7 = .int .i64 x7_1 ∧ Aside0 (dr10_Alive.l0 kq l0 x5_1 t484 x7_1 = some r) ∧ Aside0 (kq ≤ k) ∧ Aside0 (Below w.heap.size w w'))
 case atStart => exact ⟨(0), (0), bx, bx, H', ⟨Nat.le_refl _⟩, ⟨bl0⟩⟩
 case round =>
  clear H'
  try clear p2
  obtain ⟨x5_1, x7_1, rfl, rfl, HA, HK1, HB⟩ := hrel
  cases gk with
  | zero => exact absurd HA.out (by simp [dr10_Alive.l0])
  | succ k1 =>
   have H := HA.out
   clear HA
   simp only [dr10_Alive.l0] at H
   have HC5 := am H
   clear H
   go_upto_region 4 with (fail)
   go_cut [17] (fun v17 wc => ∃ (kq : Nat) (x17_4 : Bool), v17 = .bool x17_4 ∧ Aside0 (dr10_Alive.j1 kq l0 x5_1 t484 x7_1 x17_4 = some r) ∧ Aside0 (kq ≤ k1) ∧ Aside0 (Below w.heap.size w wc))
   case first =>
    have H := HC5.out
    clear HC5
    by_cases c6 : x7_1 < (l0.length : Int)
    ·rw [if_pos c6] at H
     have c6b0 : decide (x7_1 < (l0.length : Int)) = true := dT c6
     clear c6
     (first | rw [c6b0] | (simp only [i64_w, i32_w]; rw [c6b0]) | skip)
     have H' := am H
     clear H
     go_wp2
     go_meet
     case rel => exact ⟨_, (decide (x7_1 < 6)), bx, H', ⟨by have := HK1.out; first | omega | exact Nat.le_refl _⟩, ⟨bl0⟩⟩
    ·rw [if_neg c6] at H
     have c6b0 : decide (x7_1 < (l0.length : Int)) = false := dF c6
     clear c6
     (first | rw [c6b0] | (simp only [i64_w, i32_w]; rw [c6b0]) | skip)
     have H' := am H
     clear H
     go_wp2
     go_meet
     case rel => exact ⟨_, (false), bx, H', ⟨by have := HK1.out; first | omega | exact Nat.le_refl _⟩, ⟨bl0⟩⟩
   case rest =>
    clear HC5
    try clear p2
    try clear c5
    try clear c6
    try clear c6b0
    try clear p2
    obtain ⟨kq, x17_4, rfl, HA, HJ4, HB⟩ := hcut
    cases kq with
    | zero => exact absurd HA.out (by simp [dr10_Alive.j1])
    | succ kj4 =>
     have H := HA.out
     clear HA
     simp only [dr10_Alive.j1] at H
     by_cases c7 : x17_4 = true
     ·subst c7
      have H1 : ((dr10_age.f l0 x7_1 t484).bind fun t485 => (if t485 < t484 then (if 0 ≤ (IntKind.u64.wrap (x7_1)) then (dr10_Alive.l0 kj4 l0 (Go.bits .or .i64 x5_1 (shl .i64 1 (IntKind.u64.wrap (x7_1)))) t484 (wrap64 (x7_1 + 1))) else (none)) else (dr10_Alive.l0 kj4 l0 x5_1 t484 (wrap64 (x7_1 + 1))))) = some r := by rw [if_pos rfl] at H; exact H
      clear H
      have H := H1
      clear H1
      replace H := bS H
      obtain ⟨t485, A80, H⟩ := H
      replace H : (if t485 < t484 then (if 0 ≤ (IntKind.u64.wrap (x7_1)) then (dr10_Alive.l0 kj4 l0 (Go.bits .or .i64 x5_1 (shl .i64 1 (IntKind.u64.wrap (x7_1)))) t484 (wrap64 (x7_1 + 1))) else (none)) else (dr10_Alive.l0 kj4 l0 x5_1 t484 (wrap64 (x7_1 + 1)))) = some r := H
      have A8 := am A80
      clear A80
      by_cases c9 : t485 < t484
      ·rw [if_pos c9] at H
       have c9b0 : decide (t485 < t484) = true := dT c9
       clear c9
       obtain ⟨ji10, hji10⟩ : ∃ j_ : Int, (IntKind.u64.wrap (x7_1)) = j_ := ⟨_, rfl⟩
       replace H : (if 0 ≤ (ji10) then (dr10_Alive.l0 kj4 l0 (Go.bits .or .i64 x5_1 (shl .i64 1 (ji10))) t484 (wrap64 (x7_1 + 1))) else (none)) = some r := by first | (rw [hji10] at H; exact H) | (simp only [hji10] at H ⊢; exact H)
       (try rw [hji10] at A8)
       by_cases c11 : 0 ≤ (ji10)
       ·rw [if_pos c11] at H
        have c11b0 := eq_true c11
        have c11b1 : decide (0 ≤ (ji10)) = true := dT c11
        clear c11
        obtain ⟨ji12, hji12⟩ : ∃ j_ : Int, (shl .i64 1 (ji10)) = j_ := ⟨_, rfl⟩
        replace H : (dr10_Alive.l0 kj4 l0 (Go.bits .or .i64 x5_1 (ji12)) t484 (wrap64 (x7_1 + 1))) = some r := by first | (rw [hji12] at H; exact H) | (simp only [hji12] at H ⊢; exact H)
        (try rw [hji12] at A8)
        have hji12_ : (IntKind.i64.wrap (1 * 2 ^ min (ji10).toNat 64)) = ji12 := hji12
        have hji12z : (ji10) ≤ 64 → (IntKind.i64.wrap (1 * 2 ^ (ji10).toNat)) = ji12 := shl_small hji12
        have hji12u : (IntKind.i64.wrap (2 ^ min (ji10).toNat 64)) = ji12 := by have h_ := hji12_; rw [Int.one_mul] at h_; exact h_
        have hji12v : (ji10) ≤ 64 → (IntKind.i64.wrap (2 ^ (ji10).toNat)) = ji12 := fun hle_ => by have h_ := hji12z hle_; rw [Int.one_mul] at h_; exact h_
        have hji12y : (wrap64 (1 * 2 ^ min (ji10).toNat 64)) = ji12 := (i64_w _).symm.trans hji12_
        have hji12x : (ji10) ≤ 64 → (wrap64 (1 * 2 ^ (ji10).toNat)) = ji12 := fun h_ => (i64_w _).symm.trans (hji12z h_)
        have H' := am H
        clear H
        go_wp2_with (first | ((with_reducible refine gate_callee (f := 70) rfl ?_); refine goesL_ (some 23) rfl rfl Tryz.func70 (by kernel_rfl) rfl #[.slice A0 l0.length c0, .int .i64 x7_1, .int .i64 t484] rfl lm ?_; (with_reducible refine (dr10_age.calls _ _ l0 x7_1 t484 t485 _ ?side1 ?side2 A8.out).mono ?_); (case side1 => exact kc HR0); (case side2 => exact HC0.out); rintro e w13 ⟨rfl, hb⟩; refine ⟨_, rfl, ?_⟩; have n0_ := am (below_step bl0 hb); clear HB; have HB := n0_; clear n0_; (try clear hb); (try clear hb2); (try clear hk); (try clear hi)))
        go_roundg kj4
        case measure => have := HK1.out; have := HJ4.out; omega
        case rel => exact ⟨(Go.bits .or .i64 x5_1 (ji12)), (wrap64 (x7_1 + 1)), (by first | rfl | (simp; done) | (simp only [← hji12] <;> (first | rfl | simp)) | (simp [*]; done)), bx, H', ⟨by have := HK1.out; have := HJ4.out; omega⟩, ⟨bl0⟩⟩
       ·rw [if_neg c11] at H
        exact absurd H (by simp)
      ·rw [if_neg c9] at H
       have c9b0 : decide (t485 < t484) = false := dF c9
       clear c9
       have H' := am H
       clear H
       go_wp2_with (first | ((with_reducible refine gate_callee (f := 70) rfl ?_); refine goesL_ (some 23) rfl rfl Tryz.func70 (by kernel_rfl) rfl #[.slice A0 l0.length c0, .int .i64 x7_1, .int .i64 t484] rfl lm ?_; (with_reducible refine (dr10_age.calls _ _ l0 x7_1 t484 t485 _ ?side1 ?side2 A8.out).mono ?_); (case side1 => exact kc HR0); (case side2 => exact HC0.out); rintro e w14 ⟨rfl, hb⟩; refine ⟨_, rfl, ?_⟩; have n0_ := am (below_step bl0 hb); clear HB; have HB := n0_; clear n0_; (try clear hb); (try clear hb2); (try clear hk); (try clear hi)))
       go_roundg kj4
       case measure => have := HK1.out; have := HJ4.out; omega
       case rel => exact ⟨(x5_1), (wrap64 (x7_1 + 1)), bx, bx, H', ⟨by have := HK1.out; have := HJ4.out; omega⟩, ⟨bl0⟩⟩
     ·replace c7 := Bool.eq_false_iff.mpr c7
      subst c7
      have H1 : (some x5_1) = some r := by rw [if_neg (show ¬ (false = true) by decide)] at H; exact H
      clear H
      have H := H1
      clear H1
      obtain rfl := Option.some.inj H
      go_wp2
      go_ret
      exact ⟨ew, bl0⟩
def dr10_Root.l0 : Nat → Int → Int → Option (Int)
 | 0, _, _ => none
 | k + 1, x5, x6 => if x6 < 6 then (if 0 ≤ (IntKind.u64.wrap (x6)) then (if (Go.bits .and .i64 (shr .i64 x5 (IntKind.u64.wrap (x6))) 1) = 1 then (some x6) else (dr10_Root.l0 k x5 (wrap64 (x6 + 1)))) else (none)) else (some (-1))
def dr10_Root.f (k : Nat) (l0 : List Int) (a1 : Int) : Option (Int) := (dr10_Alive.f k l0 a1).bind fun t486 => (dr10_Root.l0 k t486 0)
set_option maxHeartbeats 8000000 in
set_option maxRecDepth 100000 in
theorem dr10_Root.calls (k : Nat) (A0 : Option Addr) (c0 : Nat) (l0 : List Int) (a1 : Int) (r : Int) (w : World) (hr0 : Kd.C (Kd.int .i64) w A0 l0.length l0) (hc0 : l0.length ≤ c0) (h : dr10_Root.f k l0 a1 = some r) :
  Calls Tryz.prog 29 #[.slice A0 l0.length c0, .int .i64 a1] w fun e w' => e = .returned (.int .i64 r) ∧ Below w.heap.size w w' := by
 have HR0 := am hr0
 have HC0 := am hc0
 clear hr0 hc0
 have HB := am (Below.refl w.heap.size w)
 have H : ((dr10_Alive.f k l0 a1).bind fun t486 => (dr10_Root.l0 k t486 0)) = some r := h
 clear h
 replace H := bS H
 obtain ⟨t486, A30, H⟩ := H
 replace H : (dr10_Root.l0 k t486 0) = some r := H
 have A3 := am A30
 clear A30
 have H' := am H
 clear H
 go_enter Tryz.func29, Tryz.ntmps29
 go_wp2_with (first | ((with_reducible refine gate_callee (f := 54) rfl ?_); refine goesL_ (some 9) rfl rfl Tryz.func54 (by kernel_rfl) rfl #[.slice A0 l0.length c0, .int .i64 a1] rfl lm ?_; (with_reducible refine (dr10_Alive.calls k _ _ l0 a1 t486 _ ?side1 ?side2 A3.out).mono ?_); (case side1 => repeat (first | exact HR0.out | (with_reducible refine Kd.C_alloc ?_ _) | (with_reducible refine Kd.C_drewN ?_ _) | (with_reducible refine Kd.C_drew ?_))); (case side2 => exact HC0.out); rintro e w4 ⟨rfl, hb⟩; refine ⟨_, rfl, ?_⟩; have n0_ := am (below_step bl0 hb); clear HB; have HB := n0_; clear n0_; (try clear hb); (try clear hb2); (try clear hk); (try clear hi)))
 go_loopg [6] k (fun kq v6 w' => ∃ (x6_1 : Int), v6 = .int .i64 x6_1 ∧ Aside0 (dr10_Root.l0 kq t486 x6_1 = some r) ∧ Aside0 (kq ≤ k) ∧ Aside0 (Below w.heap.size w w'))
 case atStart => exact ⟨(0), bx, H', ⟨Nat.le_refl _⟩, ⟨bl0⟩⟩
 case round =>
  clear H'
  try clear c2
  try clear p2
  obtain ⟨x6_1, rfl, HA, HK1, HB⟩ := hrel
  cases gk with
  | zero => exact absurd HA.out (by simp [dr10_Root.l0])
  | succ k1 =>
   have H := HA.out
   clear HA
   simp only [dr10_Root.l0] at H
   by_cases c5 : x6_1 < 6
   ·rw [if_pos c5] at H
    have c5b0 : decide (x6_1 < 6) = true := dT c5
    clear c5
    obtain ⟨ji6, hji6⟩ : ∃ j_ : Int, (IntKind.u64.wrap (x6_1)) = j_ := ⟨_, rfl⟩
    replace H : (if 0 ≤ (ji6) then (if (Go.bits .and .i64 (shr .i64 t486 (ji6)) 1) = 1 then (some x6_1) else (dr10_Root.l0 k1 t486 (wrap64 (x6_1 + 1)))) else (none)) = some r := by first | (rw [hji6] at H; exact H) | (simp only [hji6] at H ⊢; exact H)
    by_cases c7 : 0 ≤ (ji6)
    ·rw [if_pos c7] at H
     have c7b0 := eq_true c7
     have c7b1 : decide (0 ≤ (ji6)) = true := dT c7
     clear c7
     obtain ⟨ji8, hji8⟩ : ∃ j_ : Int, (shr .i64 t486 (ji6)) = j_ := ⟨_, rfl⟩
     replace H : (if (Go.bits .and .i64 (ji8) 1) = 1 then (some x6_1) else (dr10_Root.l0 k1 t486 (wrap64 (x6_1 + 1)))) = some r := by first | (rw [hji8] at H; exact H) | (simp only [hji8] at H ⊢; exact H)
     have hji8_ : (t486 / 2 ^ min (ji6).toNat 64) = ji8 := hji8
     have hji8z : (ji6) ≤ 64 → (t486 / 2 ^ (ji6).toNat) = ji8 := shr_small hji8
     by_cases c9 : (Go.bits .and .i64 (ji8) 1) = 1
     ·rw [if_pos c9] at H
      have c9b0 : ((Go.bits .and .i64 (ji8) 1) == 1) = true := beq_iff_eq.mpr c9
      have c9b1 : ((Go.bits .and .i64 (ji8) 1) != 1) = false := bne_eq_false_iff_eq.mpr c9
      clear c9
      obtain rfl := Option.some.inj H
      go_wp2
      go_ret
      exact ⟨by first | rfl | (simp [errW_none, errW_some] <;> rfl) | (simp only [← hji6, ← hji8]; first | rfl | (simp [errW_none, errW_some] <;> rfl)) | (simp [*, errW_none, errW_some] <;> rfl), bl0⟩
     ·rw [if_neg c9] at H
      have c9b0 : ((Go.bits .and .i64 (ji8) 1) == 1) = false := beq_eq_false_iff_ne.mpr c9
      have c9b1 : ((Go.bits .and .i64 (ji8) 1) != 1) = true := bne_iff_ne.mpr c9
      have H' := am H
      clear H
      go_wp2
      go_roundg k1
      case measure => have := HK1.out; omega
      case rel => exact ⟨(wrap64 (x6_1 + 1)), bx, H', ⟨by have := HK1.out; omega⟩, ⟨bl0⟩⟩
    ·rw [if_neg c7] at H
     exact absurd H (by simp)
   ·rw [if_neg c5] at H
    have c5b0 : decide (x6_1 < 6) = false := dF c5
    clear c5
    obtain rfl := Option.some.inj H
    go_wp2
    go_ret
    exact ⟨ew, bl0⟩
end Go.Proofs.YtbefbhghmommhaaGreatDoor.MWo
set_option linter.unusedVariables false
set_option linter.unusedSimpArgs false
namespace Go.Proofs.YtbefbhghmommhaaGreatDoor.Rt
open Go.RowKit Go.Proofs.YtbefbhghmommhaaGreatDoorW.PrintWords Go.Proofs.YtbefbhghmommhaaGreatDoorW.PrintMore Go.Proofs.YtbefbhghmommhaaGreatDoor.Evl Go.Proofs.YtbefbhghmommhaaGreatDoor.MWo
theorem w64 {x : Int} (h1 : -9223372036854775808 ≤ x) (h2 : x ≤ 9223372036854775807) : wrap64 x = x := by
 unfold wrap64; omega
theorem wu64 {x : Int} (h1 : 0 ≤ x) (h2 : x ≤ 18446744073709551615) : IntKind.u64.wrap x = x := by
 simp [IntKind.wrap, IntKind.signed, IntKind.bits]; omega
def bnd (g : Int) : Int := mn (mx g 0) 201
def att (l : List Int) (i g : Int) : Int := if i < 0 then g else if i ≥ (l.length : Int) then g else mn (mx (rd l i) 0) g
def cut6 (l : List Int) : Nat := min l.length 6
def mk (l : List Int) (b : Int) : Nat → Int → Int → Int
 | 0, _, m => m
 | d + 1, i, m => mk l b d (i + 1) (if att l i b < b then Go.bits .or .i64 m (shl .i64 1 i) else m)
def alv (l : List Int) (g : Int) : Int := mk l (bnd g) (cut6 l) 0 0
def rt (m : Int) : Nat → Int → Int
 | 0, _ => -1
 | d + 1, i => if Go.bits .and .i64 (shr .i64 m i) 1 = 1 then i else rt m d (i + 1)
def root (l : List Int) (g : Int) : Int := rt (alv l g) 6 0
theorem bound_eq (g : Int) : ages_bound.f g = some (bnd g) := rfl
theorem at_eq (l : List Int) (i g : Int) : ages_at.f l i g = some (att l i g) := by
 unfold ages_at.f att
 by_cases h : i < 0
 ·rw [if_pos h, if_pos h]
 ·rw [if_neg h, if_neg h]
  by_cases h2 : i ≥ (l.length : Int)
  ·rw [if_pos h2, if_pos h2]
  ·rw [if_neg h2, if_neg h2, if_pos (by omega), if_pos (by omega)]
theorem alive_outer {l : List Int} {g : Int} (d : Nat) :
  ∀ (i m : Int) (n : Int), 0 ≤ i → i + d = n → n ≤ 6 → Evl (fun k => ages_Alive.l0 k l g m n i) (mk l (bnd g) d i m) := by
 induction d with
 | zero =>
  intro i m n h0 h1 h2
  refine Evl.stop (fun k => ?_)
  simp only [ages_Alive.l0, mk]
  rw [if_neg (by omega)]
 | succ d ih =>
  intro i m n h0 h1 h2
  refine Evl.step (fun k => ?_) (ih (i + 1) (if att l i (bnd g) < bnd g then Go.bits .or .i64 m (shl .i64 1 i) else m) n (by omega) (by omega) h2)
  simp only [ages_Alive.l0]
  rw [if_pos (by omega), bound_eq]
  simp only [Option.bind_some]
  rw [at_eq]
  simp only [Option.bind_some]
  rw [w64 (x := i + 1) (by omega) (by omega)]
  by_cases e : att l i (bnd g) < bnd g
  ·rw [if_pos e, if_pos (by omega), if_pos e]
  ·rw [if_neg e, if_neg e]
theorem alv_evl (l : List Int) (g : Int) : Evl (fun k => ages_Alive.f k l g) (alv l g) := by
 have hc : mn (l.length : Int) 6 = (cut6 l : Int) := by unfold mn cut6; split <;> omega
 refine Evl.congr (fun k => ?_) (alive_outer (l := l) (g := g) (cut6 l) 0 0 (cut6 l) (by omega) (by omega) (by unfold cut6; omega))
 unfold ages_Alive.f
 rw [hc]
theorem root_outer {m : Int} (d : Nat) : ∀ i : Int, 0 ≤ i → i + d = 6 → Evl (fun k => ages_Root.l0 k m i) (rt m d i) := by
 induction d with
 | zero =>
  intro i h0 h1
  refine Evl.stop (fun k => ?_)
  simp only [ages_Root.l0, rt]
  rw [if_neg (by omega)]
 | succ d ih =>
  intro i h0 h1
  by_cases e : Go.bits .and .i64 (shr .i64 m i) 1 = 1
  ·refine Evl.stop (fun k => ?_)
   simp only [ages_Root.l0, rt]
   rw [if_pos (by omega), if_pos (by omega), if_pos e, if_pos e]
  ·refine Evl.step (fun k => ?_) (show Evl _ (rt m (d + 1) i) by unfold rt; rw [if_neg e]; exact ih (i + 1) (by omega) (by omega))
   simp only [ages_Root.l0]
   rw [if_pos (by omega), if_pos (by omega), if_neg e, w64 (x := i + 1) (by omega) (by omega)]
theorem root_evl (l : List Int) (g : Int) : Evl (fun k => ages_Root.f k l g) (root l g) := by
 unfold ages_Root.f
 exact Evl.bind (alv_evl l g) (root_outer 6 0 (by omega) (by omega))
theorem ralive_outer {l : List Int} {g : Int} (d : Nat) :
  ∀ (i m : Int), 0 ≤ i → i + d = cut6 l → Evl (fun k => dr10_Alive.l0 k l m (bnd g) i) (mk l (bnd g) d i m) := by
 have hc : (cut6 l : Int) ≤ 6 ∧ (cut6 l : Int) ≤ l.length := by unfold cut6; omega
 induction d with
 | zero =>
  intro i m h0 h1
  refine Evl.step (h := fun k => dr10_Alive.j1 k l m (bnd g) i false) (fun k => ?_) (Evl.stop (fun k => ?_))
  ·simp only [dr10_Alive.l0]
   by_cases e : i < (l.length : Int)
   ·rw [if_pos e, dF (by unfold cut6 at h1; omega)]
   ·rw [if_neg e]
  ·simp only [dr10_Alive.j1, mk]
   rw [if_neg (by simp)]
 | succ d ih =>
  intro i m h0 h1
  refine Evl.step (h := fun k => dr10_Alive.j1 k l m (bnd g) i true) (fun k => ?_) (Evl.step (fun k => ?_) (ih (i + 1) (if att l i (bnd g) < bnd g then Go.bits .or .i64 m (shl .i64 1 i) else m) (by omega) (by omega)))
  ·simp only [dr10_Alive.l0]
   rw [if_pos (by omega), dT (by omega)]
  ·simp only [dr10_Alive.j1]
   have e1 : dr10_age.f l i (bnd g) = some (att l i (bnd g)) := at_eq l i (bnd g)
   simp only [if_true]
   rw [e1]
   simp only [Option.bind_some]
   rw [wu64 (x := i) (by omega) (by omega), w64 (x := i + 1) (by omega) (by omega)]
   by_cases e : att l i (bnd g) < bnd g
   ·rw [if_pos e, if_pos (by omega), if_pos e]
   ·rw [if_neg e, if_neg e]
theorem ralv_evl (l : List Int) (g : Int) : Evl (fun k => dr10_Alive.f k l g) (alv l g) := by
 refine Evl.congr (fun k => ?_) (ralive_outer (l := l) (g := g) (cut6 l) 0 0 (by omega) (by omega))
 unfold dr10_Alive.f
 have e : dr10_bound.f g = some (bnd g) := rfl
 rw [e]
 rfl
theorem rroot_outer {m : Int} (d : Nat) : ∀ i : Int, 0 ≤ i → i + d = 6 → Evl (fun k => dr10_Root.l0 k m i) (rt m d i) := by
 induction d with
 | zero =>
  intro i h0 h1
  refine Evl.stop (fun k => ?_)
  simp only [dr10_Root.l0, rt]
  rw [if_neg (by omega)]
 | succ d ih =>
  intro i h0 h1
  by_cases e : Go.bits .and .i64 (shr .i64 m i) 1 = 1
  ·refine Evl.stop (fun k => ?_)
   simp only [dr10_Root.l0, rt]
   rw [wu64 (x := i) (by omega) (by omega), if_pos (by omega), if_pos (by omega), if_pos e, if_pos e]
  ·refine Evl.step (fun k => ?_) (show Evl _ (rt m (d + 1) i) by unfold rt; rw [if_neg e]; exact ih (i + 1) (by omega) (by omega))
   simp only [dr10_Root.l0]
   rw [wu64 (x := i) (by omega) (by omega), if_pos (by omega), if_pos (by omega), if_neg e, w64 (x := i + 1) (by omega) (by omega)]
theorem rroot_evl (l : List Int) (g : Int) : Evl (fun k => dr10_Root.f k l g) (root l g) := by
 unfold dr10_Root.f
 exact Evl.bind (ralv_evl l g) (rroot_outer 6 0 (by omega) (by omega))
end Go.Proofs.YtbefbhghmommhaaGreatDoor.Rt
