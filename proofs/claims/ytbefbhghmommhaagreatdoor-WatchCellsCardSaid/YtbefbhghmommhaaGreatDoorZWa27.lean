/- Texts of this claim, laid together by a program (wip/g/merge3.py): PuWi, HWm, HWa, MWox54, MWox52, HWc. -/
import Derived.Test.YtbefbhghmommhaaGreatDoorZWa22
import Derived.Test.YtbefbhghmommhaaGreatDoorZWa15
import Derived.Test.YtbefbhghmommhaaGreatDoorZWa23
import Derived.Test.YtbefbhghmommhaaGreatDoorZWa25
import Derived.Test.YtbefbhghmommhaaGreatDoorZWa26
import Derived.Test.YtbefbhghmommhaaGreatDoorZWa3
import Derived.Maps.OwnOps
import Derived.Maps.OwnSet
import Derived.Maps.Views
import Derived.Test.YtbefbhghmommhaaGreatDoorZWa7
import Derived.Test.YtbefbhghmommhaaGreatDoorZWa6
import Derived.Test.YtbefbhghmommhaaGreatDoorZWa8
import Derived.Deep.RegionLaw
import Derived.Deep.RegionHeld3
set_option linter.unusedVariables false
set_option linter.unusedSimpArgs false
set_option maxRecDepth 100000
namespace Go.Proofs.YtbefbhghmommhaaGreatDoor.MWo
open Go.RowKit Go.Proofs.YtbefbhghmommhaaGreatDoorW.PrintWords Go.Proofs.YtbefbhghmommhaaGreatDoorW.PrintLast Go.Proofs.YtbefbhghmommhaaGreatDoorW.PrintMore Go.Proofs.YtbefbhghmommhaaGreatDoor.Evl
theorem tceil_eq {d : Int} (h0 : 0 ≤ d) (h1 : d ≤ 1000000000000) : ticks_Ceil.f d 1000000 = some (up d, true) := ceil_eq h0 h1
theorem part_eq {d : Int} (h0 : 0 ≤ d) (h1 : d ≤ 1000000000000) : bounds_part.f d = some (up d) := by
 unfold bounds_part.f; rw [tceil_eq h0 h1]; rfl
theorem ranged_eq (P : List S68) (L : List S71) {a2 a3 a4 a5 a6 a7 a8 a9 a10 a11 a12 : Int} (h1 : 1000 ≤ a2) (h2 : a2 ≤ 1000000) (h3 : 0 ≤ a6) (h4 : a6 ≤ 500) (h5 : 0 ≤ a7) (h6 : a7 ≤ 400000) (h7 : 1 ≤ a8) (h8 : a8 ≤ 200) (h9 : 0 ≤ a9) (h10 : a9 ≤ 20) :
  bounds_ranged.f 100 P L a2 a3 a4 a5 a6 a7 a8 a9 a10 a11 a12 = some 0 := by
 unfold bounds_ranged.f bounds_within.f
 rw [if_pos h1, if_pos h3, if_pos h5, if_pos h7, if_pos h9, decide_eq_true h2, decide_eq_true h4, decide_eq_true h6, decide_eq_true h8, decide_eq_true h10]
 have : bounds_first.f 100 1 [true, true, true, true, true] = some 0 := by kernel_rfl
 simp only [Option.bind_some]
 rw [this]
 rfl
def Tk (dr cyc rate : Int) : Int := 2 * Eg dr cyc + Eg dr cyc + up (2 * Eg dr cyc * (rate + dr)) + 1
theorem in_eq (q s : Nat) {a2 a3 a4 a5 a6 a7 a8 a9 a10 a11 a12 : Int} (g1 : 1 ≤ q) (g4 : q ≤ 4) (g3 : s ≤ 3) (h1 : 0 ≤ a6) (h2 : a6 ≤ 140) (h3 : 20000 ≤ a2) (h4 : a2 ≤ 27000) (h5 : 0 ≤ a7) (h6 : a7 ≤ 400000) (h7 : 1 ≤ a8) (h8 : a8 ≤ 200) (h9 : 0 ≤ a9) (h10 : a9 ≤ 20) :
  ∃ b3 b4 b5 b7, bounds_in.f (madeNet q s).1 (madeNet q s).2 a2 a3 a4 a5 a6 a7 a8 a9 a10 a11 a12 = some (Eg a6 a2, 2 * Eg a6 a2, b3, b4, b5, Tk a6 a2 a7, b7) := by
 have hb := dc_bd h1 h2 h3 h4
 have he := Eg_bd h1 h2 h3 h4
 unfold bounds_in.f
 rw [right_made a2 a3 a4 a5 a6 a7 a8 a9 a10 a11 a12 q s g1 g4 g3]
 simp only [Option.bind_some, if_true]
 rw [ranged_eq _ _ (by omega) (by omega) h1 (by omega) h5 h6 h7 h8 h9 h10]
 simp only [Option.bind_some, if_true]
 unfold bounds_Reckon.f
 rw [show wrap64 (2 * a6) = 2 * a6 by unfold wrap64; omega, show wrap64 (2 * a6 * a2) = 2 * a6 * a2 by unfold wrap64; omega, part_eq (by omega) (by omega)]
 simp only [Option.bind_some]
 rw [show wrap64 (a6 * a2) = a6 * a2 by unfold wrap64; omega, part_eq (by omega) (by omega)]
 simp only [Option.bind_some]
 have e1 : up (2 * a6 * a2) + 1 = Eg a6 a2 := rfl
 have hm : 0 ≤ 2 * Eg a6 a2 * (a7 + a6) ∧ 2 * Eg a6 a2 * (a7 + a6) ≤ 18 * (a7 + a6) := ⟨Int.mul_nonneg (by omega) (by omega), Int.mul_le_mul_of_nonneg_right (by omega) (by omega)⟩
 rw [e1, show wrap64 (Eg a6 a2) = Eg a6 a2 by unfold wrap64; omega, show wrap64 (2 * Eg a6 a2) = 2 * Eg a6 a2 by unfold wrap64; omega, show wrap64 (a7 + a6) = a7 + a6 by unfold wrap64; omega, show wrap64 (2 * Eg a6 a2 * (a7 + a6)) = 2 * Eg a6 a2 * (a7 + a6) by unfold wrap64; omega, part_eq (by omega) (by omega)]
 simp only [Option.bind_some]
 have hu : 0 ≤ up (2 * Eg a6 a2 * (a7 + a6)) ∧ up (2 * Eg a6 a2 * (a7 + a6)) ≤ 100 := by unfold up; omega
 rw [show wrap64 (2 * Eg a6 a2 + Eg a6 a2) = 2 * Eg a6 a2 + Eg a6 a2 by unfold wrap64; omega, show wrap64 (2 * Eg a6 a2 + Eg a6 a2 + up (2 * Eg a6 a2 * (a7 + a6))) = 2 * Eg a6 a2 + Eg a6 a2 + up (2 * Eg a6 a2 * (a7 + a6)) by unfold wrap64; omega, show wrap64 (2 * Eg a6 a2 + Eg a6 a2 + up (2 * Eg a6 a2 * (a7 + a6)) + 1) = Tk a6 a2 a7 by unfold Tk wrap64; omega]
 exact ⟨_, _, _, _, rfl⟩
theorem near_evl (q s : Nat) {a2 a3 a4 a5 a6 a7 a8 a9 a10 a11 a12 : Int} (g1 : 1 ≤ q) (g4 : q ≤ 4) (g3 : s ≤ 3) (h1 : 0 ≤ a6) (h2 : a6 ≤ 140) (h3 : 20000 ≤ a2) (h4 : a2 ≤ 27000) (h5 : 0 ≤ a7) (h6 : a7 ≤ 400000) (h7 : 1 ≤ a8) (h8 : a8 ≤ 200) (h9 : 0 ≤ a9) (h10 : a9 ≤ 20) :
  bounds_Near.f (madeNet q s).1 (madeNet q s).2 a2 a3 a4 a5 a6 a7 a8 a9 a10 a11 a12 = some (2 * Eg a6 a2) := by
 obtain ⟨b3, b4, b5, b7, hi⟩ := in_eq q s (a3 := a3) (a4 := a4) (a5 := a5) (a10 := a10) (a11 := a11) (a12 := a12) g1 g4 g3 h1 h2 h3 h4 h5 h6 h7 h8 h9 h10
 unfold bounds_Near.f
 rw [hi]
 rfl
theorem rnear_evl (q s : Nat) {a2 a3 a4 a5 a6 a7 a8 a9 a10 a11 a12 : Int} (g1 : 1 ≤ q) (g4 : q ≤ 4) (g3 : s ≤ 3) (h1 : 0 ≤ a6) (h2 : a6 ≤ 140) (h3 : 20000 ≤ a2) (h4 : a2 ≤ 27000) (h5 : 0 ≤ a7) (h6 : a7 ≤ 400000) (h7 : 1 ≤ a8) (h8 : a8 ≤ 200) (h9 : 0 ≤ a9) (h10 : a9 ≤ 20) :
  dr5_Near.f (madeNet q s).1 (madeNet q s).2 a2 a3 a4 a5 a6 a7 a8 a9 a10 a11 a12 = some (2 * Eg a6 a2) := by
 have he := Eg_bd h1 h2 h3 h4
 unfold dr5_Near.f
 rw [Edge_eq q s g1 g4 g3 h1 h2 h3 h4 h5 h6 h7 h8 h9 h10]
 show some (wrap64 (2 * Eg a6 a2)) = _
 rw [show wrap64 (2 * Eg a6 a2) = 2 * Eg a6 a2 by unfold wrap64; omega]
def withinV (nr : Int) (l : List S55) (L : List Int) : Bool := if agreeB l = true then (if L = [] then true else if (sprd L).2 = true then decide ((sprd L).1 ≤ nr) else false) else false
def begs (l : List S55) (on : Bool) (st : Int) : List Int := if on = true then (syn l).map (·.f3) ++ [st] else (syn l).map (·.f3)
theorem rwithin_evl {l : List S55} (hl : l.length ≤ 1000) (hx : ∀ x ∈ l, x.f5.length ≤ 1000000) (P : List S68) (Q : List S71) (a2 a3 a4 a5 a6 a7 a8 a9 a10 a11 a12 : Int) (on : Bool) (st : Int) (ag : List Int) {nr : Int}
  (hn : dr5_Near.f P Q a2 a3 a4 a5 a6 a7 a8 a9 a10 a11 a12 = some nr) :
  Evl (fun k => dr26_Within.f k P Q a2 a3 a4 a5 a6 a7 a8 a9 a10 a11 a12 l on st ag) (withinV nr l (begs l on st)) := by
 unfold dr26_Within.f
 have h0 := syn_len l
 refine Evl.bind (rsynced_evl (by omega) on st ag) ?_
 refine Evl.bind (rstarts_evl (by omega)) ?_
 have h1 : ((syn l).map (·.f3)).length ≤ 1000 := by rw [List.length_map]; omega
 have hA : dr26_Agree.f l on st ag = some (agreeB l) := if_pos ⟨hl, List.all_eq_true.2 fun x h => decide_eq_true (hx x h)⟩
 have h2 : (syn l).map (·.f3) = [] → agreeB l = true := fun h => by
  have : syn l = [] := List.map_eq_nil_iff.1 h
  unfold agreeB; rw [this]
 unfold begs
 generalize (syn l).map (·.f3) = X at h1 h2 ⊢
 have tail : ∀ L : List Int, L.length ≤ 1001 → (L = [] → agreeB l = true) → Evl (fun k => dr26_Within.j0 k L P Q a2 a3 a4 a5 a6 a7 a8 a9 a10 a11 a12 l on st ag) (withinV nr l L) := by
  intro L hL hE
  refine Evl.succ ?_
  simp only [dr26_Within.j0]
  unfold withinV
  by_cases h0 : L = []
  ·rw [if_pos (hE h0), if_pos h0]
   subst h0
   simp only [List.length_nil, Int.ofNat_zero, if_true]
   exact Evl.now fun _ => rfl
  ·have hp := List.length_pos_iff.2 h0
   simp only [if_neg (show ¬ ((L.length : Int) = 0) by omega), if_neg h0]
   refine Evl.bind (rspread_evl (by omega)) ?_
   simp only [hA, Option.bind_some]
   by_cases ha : agreeB l = true
   ·simp only [if_pos ha]
    by_cases hs : (sprd L).2 = true
    ·simp only [if_pos hs]
     simp only [hn, Option.bind_some]
     exact Evl.now fun _ => rfl
    ·simp only [if_neg hs]
     exact Evl.now fun _ => rfl
   ·simp only [if_neg ha]
    exact Evl.now fun _ => rfl
 cases on with
 | true =>
  simp only [if_true, if_pos (show X.length < 17592186044416 by omega)]
  exact tail (X ++ [st]) (by simp; omega) (fun h => by simp at h)
 | false =>
  simp only [show (false = true) = False by simp, if_false]
  exact tail X (by omega) h2
end Go.Proofs.YtbefbhghmommhaaGreatDoor.MWo
set_option linter.unusedVariables false
set_option linter.unusedSimpArgs false
set_option maxRecDepth 100000
namespace Go.Proofs.YtbefbhghmommhaaGreatDoor.MWo
open Go.RowKit Go.Maps Go.Proofs.YtbefbhghmommhaaGreatDoorW.PrintWords Go.Proofs.YtbefbhghmommhaaGreatDoorW.PrintLast Go.Proofs.YtbefbhghmommhaaGreatDoorW.PrintMore
theorem keyI : Keyed Tryz.prog 3 := int_keyed Tryz.underlying3
theorem zeroL (w : World) : (zeroValue 2).run Tryz.prog w = .ok (.int .i64 0) w := by kernel_rfl
def Mp (w : World) (b n : Nat) (g : Int → Int) : Prop :=
 ∃ D : DataW Unit, w.ownsMap Tryz.prog 3 (plainElem Tryz.prog 2) b n D ∧ ∀ q, (Lit.int .i64 q).wf = true → D.atKey (.int .i64 q) (.lit (.int .i64 0)) = .lit (.int .i64 (g q))
def upd (g : Int → Int) (k v : Int) : Int → Int := fun q => if q = k then v else g q
theorem Mp.made (w : World) : Mp (w.alloc (.map #[] 0)) w.heap.size 0 (fun _ => 0) := ⟨.map [], World.ownsMap_made _ _ _ _, fun _ _ => rfl⟩
theorem Mp.look {w : World} {b n : Nat} {g : Int → Int} (h : Mp w b n g) {q : Int} (hq : (Lit.int .i64 q).wf = true) :
  (Instr.lookup 83 (.map (some b)) (.int .i64 q) false).run Tryz.prog w = .ok (.int .i64 (g q)) w := by
 obtain ⟨D, hD, hg⟩ := h
 obtain ⟨c, hrun, hat, _⟩ := hD.lookup_int keyI Tryz.underlying83 Tryz.underlying2 (zeroL _) (keyOf_int_mk Tryz.underlying3 hq)
 have := hat.symm.trans (hg q hq)
 injection this with e
 injection e with _ e2
 rw [hrun, e2]
theorem Mp.put {w : World} {b n : Nat} {g : Int → Int} (h : Mp w b n g) (hn : n < maxLen) {q v : Int} (hq : (Lit.int .i64 q).wf = true) (hv : (Lit.int .i64 v).wf = true) :
  ∃ w', (Instr.mapUpdate 83 (.map (some b)) (.int .i64 q) (.int .i64 v)).run Tryz.prog w = .ok () w' ∧ Mp w' b (n + 1) (upd g q v) ∧ w.grownBy w' (some b) := by
 obtain ⟨D, hD, hg⟩ := h
 obtain ⟨w', hrun, h1, h2⟩ := hD.update keyI Tryz.underlying83 hn (keyOf_int_mk Tryz.underlying3 hq) (plainElem_int (H := Unit) Tryz.underlying2 hv)
 refine ⟨w', hrun, ⟨_, h1, fun k hk => ?_⟩, h2⟩
 unfold upd
 by_cases e : k = q
 ·subst e
  rw [if_pos rfl]
  exact atKey_put_same hD.isMap (show WideAt.IsKeyLit (.int .i64 k) from trivial) _ _
 ·rw [if_neg e, atKey_put_other (by intro h; injection h with _ h; exact e h)]
  exact hg k hk
theorem Mp.grown {w w1 : World} {b n : Nat} {g : Int → Int} {row : Option Nat} (h : Mp w b n g) (hg : w.grownBy w1 row) (hne : some b ≠ row) : Mp w1 b n g := by
 obtain ⟨D, hD, h2⟩ := h
 exact ⟨D, hD.kept hg hne, h2⟩
theorem Mp.lt {w : World} {b n : Nat} {g : Int → Int} (h : Mp w b n g) : b < w.heap.size := by
 obtain ⟨D, hD, _⟩ := h
 exact hD.lt
structure S52 where
 f0 : Int
 f1 : Int
 f2 : Bool
 f3 : List Int
def z52 : S52 := ⟨0, 0, false, []⟩
def rd_T52 (xs : List S52) (i : Int) : S52 := xs.getD i.toNat z52
def ordM : (Int → Int) → List S52 → Bool
 | _, [] => true
 | g, x :: t => if x.f1 ≤ g x.f0 then false else if (x.f2 != (wrap64 (x.f1 - 1) != g x.f0)) = true then false else ordM (upd g x.f0 x.f1) t
def lgk : Kd S52 where
 sz := 4
 E := []
 K := fun _ x cs => ∃ A n c, cs = [.int .i64 x.f0, .int .i64 x.f1, .bool x.f2, .slice A n c]
 M := fun _ _ _ x cs => ∃ A n c, cs = [.int .i64 x.f0, .int .i64 x.f1, .bool x.f2, .slice A n c]
 K_len := by rintro w x cs ⟨_, _, _, rfl⟩; rfl
 K_one := by rintro w x cs ⟨_, _, _, rfl⟩ u hu; simp at hu; rcases hu with rfl | rfl | rfl | rfl <;> rfl
 K_below := fun _ h => h
 K_of_M := fun h => h
 M_mono := fun _ h => h
 M_bound := fun h => h
 M_move := fun _ h => h
 M_lower := fun _ h => h
theorem at_lgk {w : World} {A : Option Addr} {n : Nat} {xs : List S52} (h : Kd.C lgk w A n xs) (i : Nat) (h1 : i < n) : ∃ ad A3 n3 c3, A = some ad ∧ w.cell? (ad.add (i * 4)) = some (.int .i64 (rd_T52 xs i).f0) ∧ w.cell? ⟨(ad.add (i * 4)).block, (ad.add (i * 4)).off + 1, none⟩ = some (.int .i64 (rd_T52 xs i).f1) ∧ w.cell? ⟨(ad.add (i * 4)).block, (ad.add (i * 4)).off + 2, none⟩ = some (.bool (rd_T52 xs i).f2) ∧ w.cell? ⟨(ad.add (i * 4)).block, (ad.add (i * 4)).off + 3, none⟩ = some (.slice A3 n3 c3) := by
 obtain ⟨ad, c, e, _, hK, hc0⟩ := Kd.C_get h z52 (i : Int) (by omega) (by omega)
 simp only [Int.toNat_natCast] at hc0
 have hc : ∀ j u, c[j]? = some u → w.cell? (ad.add (i * 4 + j)) = some u := hc0
 obtain ⟨A3, n3, c3, rfl⟩ := hK
 exact ⟨ad, A3, n3, c3, e, hc 0 _ rfl, by rw [← add_field _ _ 1 (by omega)]; exact hc 1 _ rfl, by rw [← add_field _ _ 2 (by omega)]; exact hc 2 _ rfl, by rw [← add_field _ _ 3 (by omega)]; exact hc 3 _ rfl⟩
set_option maxHeartbeats 4000000 in
theorem order_walk (A : Option Addr) (c : Nat) (l : List S52) (w : World) (hr : Kd.C lgk w A l.length l) (hl : l.length ≤ 100000) (hwf : ∀ x ∈ l, (Lit.int .i64 x.f0).wf = true ∧ (Lit.int .i64 x.f1).wf = true) :
  Calls Tryz.prog 22 #[.slice A l.length c] w fun e w' => e = .returned (.bool (ordM (fun _ => 0) l)) ∧ Below w.heap.size w w' := by
 have HR := am hr
 have HW := am hwf
 have hmm := @run_makeMap Tryz.prog
 obtain ⟨Z, hZ⟩ : ∃ Z, ordM (fun _ => 0) l = Z := ⟨_, rfl⟩
 rw [hZ]
 have HZ := am hZ
 clear hr hwf hZ
 go_enter Tryz.func22, Tryz.ntmps22
 go_wp2_with fail
 go_loopg [9] (l.length + 1) (fun kq v9 wr => ∃ (k : Nat) (g : Int → Int), Aside0 (k ≤ l.length ∧ kq = l.length + 1 - k) ∧ v9 = .int .i64 k ∧ Aside0 (Mp wr w.heap.size k g) ∧ Aside0 (Below w.heap.size w wr) ∧ Aside0 (ordM g (l.drop k) = Z))
 case atStart => exact ⟨0, fun _ => 0, ⟨Nat.zero_le _, rfl⟩, rfl, ⟨Mp.made w⟩, ⟨below_alloc (Below.refl _ _) _⟩, HZ⟩
 case round =>
  clear HZ
  obtain ⟨k, g, HK, rfl, HM, HB, HZ⟩ := hrel
  by_cases hk : k < l.length
  ·have hd : decide ((k : Int) < (l.length : Int)) = true := decide_eq_true (by omega)
   obtain ⟨ad, A3, n3, c3, e3, h0, h1, h2, h3⟩ := at_lgk (Kd.C_below HR.out HB.out) k hk
   cases e3
   have hx : rd_T52 l (k : Int) = l[k] := by simp [rd_T52, hk]
   have hdr : l.drop k = l[k] :: l.drop (k + 1) := by rw [List.drop_eq_getElem_cons hk]
   have hw := HW.out l[k] (List.getElem_mem hk)
   rw [hx] at h0 h1 h2
   have HZ2 : Aside0 (ordM g (l[k] :: l.drop (k + 1)) = Z) := ⟨by rw [← hdr]; exact HZ.out⟩
   have p0_ := eq_true (show (0 : Int) ≤ (k : Int) by omega)
   have p0c : (k : Int) < (l.length : Int) := by omega
   clear HZ hdr hx
   generalize l[k] = x at *
   go_upto_region 5 with fail
   have kb := below_alloc (Below.refl wr.heap.size wr) (.cells #[.int .i64 x.f0, .int .i64 x.f1, .bool x.f2, .slice A3 n3 c3] 52)
   have HX := am (heap_alloc_new wr (.cells #[.int .i64 x.f0, .int .i64 x.f1, .bool x.f2, .slice A3 n3 c3] 52))
   have HM1 := am (HM.out.grown (World.grownBy_alloc wr (.cells #[.int .i64 x.f0, .int .i64 x.f1, .bool x.f2, .slice A3 n3 c3] 52) none) (by simp))
   have HB1 := am (below_step HB.out kb)
   have HLM := am HM.out.lt
   clear kb h0 h1 h2 h3 HM HB
   generalize wr.alloc (.cells #[.int .i64 x.f0, .int .i64 x.f1, .bool x.f2, .slice A3 n3 c3] 52) = w1 at *
   generalize wr.heap.size = xb at *
   have c1 : w1.cell? ⟨xb, 1, none⟩ = some (.int .i64 x.f1) := (blk_cell HX.out 1).trans rfl
   have c0 : w1.cell? ⟨xb, 0, none⟩ = some (.int .i64 x.f0) := (blk_cell HX.out 0).trans rfl
   have c2 : w1.cell? ⟨xb, 2, none⟩ = some (.bool x.f2) := (blk_cell HX.out 2).trans rfl
   have hlk := HM1.out.look hw.1
   by_cases hle : x.f1 ≤ g x.f0
   ·have hd1 : decide (x.f1 ≤ g x.f0) = true := decide_eq_true hle
    have HE : Aside0 (Z = false) := ⟨by rw [← HZ2.out]; exact if_pos hle⟩
    go_wp2_with fail
    go_ret
    rw [HE.out]
    exact ⟨rfl, HB1.out⟩
   ·have hd1 : decide (x.f1 ≤ g x.f0) = false := decide_eq_false hle
    by_cases hg : (x.f2 != (wrap64 (x.f1 - 1) != g x.f0)) = true
    ·have HE : Aside0 (Z = false) := ⟨by rw [← HZ2.out]; exact (if_neg hle).trans (if_pos hg)⟩
     have hg2 : (!x.f2 == (wrap64 (x.f1 - 1) != g x.f0)) = true := by rw [← hg]; cases x.f2 <;> cases (wrap64 (x.f1 - 1) != g x.f0) <;> rfl
     go_wp2_with fail
     go_ret
     rw [HE.out]
     exact ⟨rfl, HB1.out⟩
    ·have hg2 : (!x.f2 == (wrap64 (x.f1 - 1) != g x.f0)) = false := by
      have hg1 : (x.f2 != (wrap64 (x.f1 - 1) != g x.f0)) = false := by simpa using hg
      rw [← hg1]; cases x.f2 <;> cases (wrap64 (x.f1 - 1) != g x.f0) <;> rfl
     have hg0 : (x.f2 != (wrap64 (x.f1 - 1) != g x.f0)) = false := by simpa using hg
     have HZ3 : Aside0 (ordM (upd g x.f0 x.f1) (l.drop (k + 1)) = Z) := ⟨by rw [← HZ2.out]; exact ((if_neg hle).trans (if_neg hg)).symm⟩
     obtain ⟨w2, hmu, hM2, hg2⟩ := HM1.out.put (by have := HK.out; unfold maxLen; omega) hw.1 hw.2
     have HM2 := am hM2
     have HB2 := am (HB1.out.grown hg2 HB1.out.size (fun j hj => by cases hj; exact Nat.le_refl _))
     clear hM2 hg2 HM1
     cases gk with
     | zero => exact absurd HK.out (by omega)
     | succ k1 =>
     go_wp2_with fail
     go_roundg k1
     case measure => have := HK.out; omega
     case rel => exact ⟨k + 1, _, ⟨by omega, by have := HK.out; omega⟩, rfl, HM2, HB2, HZ3⟩
  ·have hd : decide ((k : Int) < (l.length : Int)) = false := decide_eq_false (by omega)
   have HE : Aside0 (Z = true) := ⟨by rw [← HZ.out, List.drop_eq_nil_iff.2 (by omega)]; rfl⟩
   go_wp2_with fail
   go_ret
   rw [HE.out]
   exact ⟨rfl, HB.out⟩
end Go.Proofs.YtbefbhghmommhaaGreatDoor.MWo
set_option linter.unusedVariables false
set_option linter.unusedSimpArgs false
set_option maxRecDepth 100000
namespace Go.Proofs.YtbefbhghmommhaaGreatDoor.MWo
open Go.RowKit Go.Maps Go.Proofs.YtbefbhghmommhaaGreatDoorW.PrintWords Go.Proofs.YtbefbhghmommhaaGreatDoorW.PrintLast Go.Proofs.YtbefbhghmommhaaGreatDoorW.PrintMore
theorem gspread_nil (A : Option Addr) (c : Nat) (w : World) : Calls Tryz.prog 32 #[.slice A 0 c] w fun e w' => e = .returned (.tuple #[.int .i64 0, .bool false]) ∧ w' = w := by
 go_enter Tryz.func32, Tryz.ntmps32
 go_wp2
 go_ret2
 exact ⟨rfl, rfl⟩
theorem index_nil (A : Option Addr) (c : Nat) (v : Value) (w : World) : Calls Tryz.prog 53 #[.slice A 0 c, v] w fun e w' => e = .returned (.int .i64 (-1)) ∧ w' = w := by
 go_enter Tryz.func53, Tryz.ntmps53
 go_wp2
 refine wp_loop_rounds 1 ?_
 rw [rounds_succ]
 go_wp2
 go_ret
 exact ⟨rfl, rfl⟩
theorem contains_nil (A : Option Addr) (c : Nat) (v : Value) (w : World) : Calls Tryz.prog 26 #[.slice A 0 c, v] w fun e w' => e = .returned (.bool false) ∧ w' = w := by
 go_enter Tryz.func26, Tryz.ntmps26
 go_wp2_with fail
 refine (index_nil A c v w).mono ?_
 rintro e w1 ⟨rfl, rfl⟩
 go_wp2_with fail
 go_ret
 exact ⟨rfl, rfl⟩
theorem spread_nil (w : World) : Calls Tryz.prog 16 #[.agg #[.slice none 0 0, .bool false, .int .i64 0, .slice none 0 0]] w fun e w' => e = .returned (.tuple #[.int .i64 0, .bool false]) ∧ Below w.heap.size w w' := by
 go_enter Tryz.func16, Tryz.ntmps16
 go_wp2_with fail
 have HB := am (below_alloc (Below.refl w.heap.size w) (.cells #[.slice none 0 0, .bool false, .int .i64 0, .slice none 0 0] 37))
 refine (watch_starts.calls 9 none 0 [] false 0 none 0 [] [] _ (Kd.C_nil _ _) (Nat.le_refl _) (Kd.C_nil _ _) (Nat.le_refl _) rfl).mono ?_
 rintro e w1 ⟨v, rfl, ho, hb⟩
 obtain ⟨A, c, rfl⟩ := Kd.R_slice ho
 have HB1 := am (below_step HB.out hb)
 clear ho hb
 go_wp2_with fail
 refine (gspread_nil A c w1).mono ?_
 rintro e w2 ⟨rfl, rfl⟩
 go_wp2_with fail
 go_ret2
 exact ⟨rfl, HB1.out⟩
theorem agree_nil (w : World) : Calls Tryz.prog 20 #[.agg #[.slice none 0 0, .bool false, .int .i64 0, .slice none 0 0]] w fun e w' => e = .returned (.bool true) ∧ Below w.heap.size w w' := by
 go_enter Tryz.func20, Tryz.ntmps20
 go_wp2_with fail
 have HB := am (below_alloc (Below.refl w.heap.size w) (.cells #[.slice none 0 0, .bool false, .int .i64 0, .slice none 0 0] 37))
 refine (watch_synced.calls 9 (fun _ => False) none 0 [] false 0 none 0 [] [] _ (Kd.V_nil _ _ _ _ _) (Kd.C_nil _ _) (Nat.le_refl _) rfl).mono ?_
 rintro e w1 ⟨v, rfl, ho, hb⟩
 obtain ⟨A, c, rfl⟩ := Kd.N_slice ho
 have HB1 := am (below_step HB.out hb)
 clear ho hb
 go_wp2_with fail
 have HB2 := am (below_alloc HB1.out (.cells #[.slice A ([] : List S55).length c] 32))
 refine (contains_nil A c _ _).mono ?_
 rintro e w2 ⟨rfl, rfl⟩
 go_wp2_with fail
 go_ret
 exact ⟨rfl, HB2.out⟩
theorem base_nil (w : World) : Calls Tryz.prog 9 #[.agg #[.slice none 0 0, .slice none 0 0, .int .i64 0, .int .i64 0, .int .i64 0, .int .i64 0, .int .i64 0, .int .i64 0, .int .i64 0, .int .i64 0, .int .i64 0, .int .i64 0, .int .i64 0], .slice none 0 0] w fun e w' => e = .returned (.tuple #[.int .i64 (-1), .bool false]) ∧ Below w.heap.size w w' := by
 go_enter Tryz.func9, Tryz.ntmps9
 go_wp2_with fail
 refine wp_loop_rounds 1 ?_
 rw [rounds_succ]
 go_wp2_with fail
 go_ret2
 exact ⟨rfl, by repeat (first | exact Below.refl _ _ | apply below_alloc)⟩
theorem one_got (w : World) (a b : Int) (g : Bool) : Kd.C lgk (w.alloc (.cells #[.int .i64 a, .int .i64 b, .bool g, .slice none 0 0] 52)) (some ⟨w.heap.size, 0, none⟩) [(⟨a, b, g, []⟩ : S52)].length [⟨a, b, g, []⟩] := by
 have hb := heap_alloc_new w (.cells #[.int .i64 a, .int .i64 b, .bool g, .slice none 0 0] 52)
 refine ⟨rfl, (show (1 : Nat) ≤ 9223372036854775807 by decide), fun _ => ⟨_, rfl, fun j p hp => ?_⟩⟩
 cases j with
 | zero =>
  simp only [List.getElem?_cons_zero, Option.some.injEq] at hp
  subst hp
  refine ⟨[.int .i64 a, .int .i64 b, .bool g, .slice none 0 0], rfl, ⟨none, 0, 0, rfl⟩, fun i u hu => ?_⟩
  have e : (⟨w.heap.size, 0, none⟩ : Addr).add (0 * lgk.sz + i) = ⟨w.heap.size, i, none⟩ := by rw [Nat.zero_mul, Nat.zero_add, add_at, Nat.zero_add]
  rw [e]
  exact (blk_cell hb i).trans (by rw [← hu]; simp)
 | succ j => simp at hp
theorem alive_walk (w : World) : Calls Tryz.prog 7 #[] w fun e w' => e = .returned (.bool true) ∧ Below w.heap.size w w' := by
 go_enter Tryz.func7, Tryz.ntmps7
 go_wp2_with fail
 refine (spread_nil _).mono ?_
 rintro e w1 ⟨rfl, hb⟩
 have HB1 := am hb
 clear hb
 go_wp2_with fail
 refine (base_nil _).mono ?_
 rintro e w2 ⟨rfl, hb⟩
 have HB2 := am (below_step HB1.out hb)
 clear hb
 go_wp2_with fail
 refine (agree_nil _).mono ?_
 rintro e w3 ⟨rfl, hb⟩
 have HB3 := am (below_step HB2.out hb)
 clear hb
 go_wp2_with fail
 have HA4 := am (below_alloc HB3.out (.cells #[.int .i64 1, .int .i64 2, .bool true, .slice none 0 0] 52))
 refine (order_walk (some ⟨w3.heap.size, 0, none⟩) 1 [⟨1, 2, true, []⟩] _ (one_got w3 1 2 true) (by decide) (by simp; decide)).mono ?_
 rintro e w4 ⟨rfl, hb⟩
 rw [show ordM (fun _ => 0) [⟨1, 2, true, []⟩] = true by simp [ordM, wrap64]]
 have HB4 := am (below_step HA4.out hb)
 clear hb
 go_wp2_with fail
 have HA5 := am (below_alloc HB4.out (.cells #[.int .i64 1, .int .i64 2, .bool false, .slice none 0 0] 52))
 refine (order_walk (some ⟨w4.heap.size, 0, none⟩) 1 [⟨1, 2, false, []⟩] _ (one_got w4 1 2 false) (by decide) (by simp; decide)).mono ?_
 rintro e w5 ⟨rfl, hb⟩
 have HB5 := am (below_step HA5.out hb)
 clear hb
 rw [show ordM (fun _ => 0) [⟨1, 2, false, []⟩] = false by simp [ordM, wrap64]]
 go_wp2_with fail
 go_ret
 exact ⟨rfl, HB5.out⟩
end Go.Proofs.YtbefbhghmommhaaGreatDoor.MWo
namespace Go.Proofs.YtbefbhghmommhaaGreatDoor.MWo
open Go.RowKit Go.Proofs.YtbefbhghmommhaaGreatDoorW.PrintWords Go.Proofs.YtbefbhghmommhaaGreatDoorW.PrintLast Go.Proofs.YtbefbhghmommhaaGreatDoorW.PrintMore
attribute [local go_sem] mp_u32s mp_u32m mp_u8s mp_u8m max2_int min2_int max_two min_two max_three min_three max_four min_four
set_option linter.unusedVariables false
set_option linter.unusedSimpArgs false
def dl28_alive.f : Option Bool := some true
theorem dl28_alive.calls (r : Bool) (w : World) (h : dl28_alive.f = some r) :
  Calls Tryz.prog 7 #[] w fun e w' => e = .returned (.bool r) ∧ Below w.heap.size w w' := by
 obtain rfl := Option.some.inj h
 exact alive_walk w
def watch_Agree.f (l0_0 : List S55) (a0_1 : Bool) (a0_2 : Int) (l0_3 : List Int) : Option Bool := if l0_0.length ≤ 1000000 ∧ (l0_0.all fun x => decide (x.f5.length ≤ 1000000)) = true then some (agreeB l0_0) else none
theorem watch_Agree.calls (A0_0 : Option Addr) (c0_0 : Nat) (l0_0 : List S55) (a0_1 : Bool) (a0_2 : Int) (A0_3 : Option Addr) (c0_3 : Nat) (l0_3 : List Int) (r : Bool) (w : World) (hr0_0 : Kd.C k55 w A0_0 l0_0.length l0_0) (hc0_0 : l0_0.length ≤ c0_0) (hr0_3 : Kd.C (Kd.int .i64) w A0_3 l0_3.length l0_3) (hc0_3 : l0_3.length ≤ c0_3) (h : watch_Agree.f l0_0 a0_1 a0_2 l0_3 = some r) :
  Calls Tryz.prog 20 #[.agg #[.slice A0_0 l0_0.length c0_0, .bool a0_1, .int .i64 a0_2, .slice A0_3 l0_3.length c0_3]] w fun e w' => e = .returned (.bool r) ∧ Below w.heap.size w w' := by
 unfold watch_Agree.f at h
 split at h
 ·rename_i hc
  injection h with h
  subst h
  exact agree_walk A0_0 c0_0 l0_0 a0_1 a0_2 A0_3 c0_3 l0_3 w hr0_0 hc0_0 hr0_3 hc0_3 hc.1 (fun x hx => of_decide_eq_true (List.all_eq_true.mp hc.2 x hx))
 ·cases h
end Go.Proofs.YtbefbhghmommhaaGreatDoor.MWo
set_option linter.unusedVariables false
set_option linter.unusedSimpArgs false
set_option maxRecDepth 100000
namespace Go.Proofs.YtbefbhghmommhaaGreatDoor.MWo
open Go.RowKit Go.Proofs.YtbefbhghmommhaaGreatDoorW.PrintWords Go.Proofs.YtbefbhghmommhaaGreatDoorW.PrintLast Go.Proofs.YtbefbhghmommhaaGreatDoorW.PrintMore Go.Proofs.YtbefbhghmommhaaGreatDoor.Evl
structure CellAt (w : World) (x : S37) (A : Option Addr) (c : Nat) (A3 : Option Addr) (c3 : Nat) : Prop where
 r0 : Kd.C k55 w A x.f0.length x.f0
 c0 : x.f0.length ≤ c
 r3 : Kd.C (Kd.int .i64) w A3 x.f1.f2.length x.f1.f2
 c3 : x.f1.f2.length ≤ c3
theorem CellAt.below {w w1 : World} {x : S37} {A : Option Addr} {c : Nat} {A3 : Option Addr} {c3 : Nat} (h : CellAt w x A c A3 c3) (k : Below w.heap.size w w1) : CellAt w1 x A c A3 c3 :=
 ⟨Kd.C_below h.r0 k, h.c0, Kd.C_below h.r3 k, h.c3⟩
theorem two_cells {w1 : World} {g : Nat} {x y : S37} {A B A3 B3 : Option Addr} {c d c3 d3 : Nat} (hx : CellAt w1 x A c A3 c3) (hy : CellAt w1 y B d B3 d3)
  (hb : w1.heap[g]? = some (.cells #[.slice A x.f0.length c, .bool x.f1.f0, .int .i64 x.f1.f1, .slice A3 x.f1.f2.length c3, .slice B y.f0.length d, .bool y.f1.f0, .int .i64 y.f1.f1, .slice B3 y.f1.f2.length d3] 37 (0, 0))) :
  Kd.C k37 w1 (some ⟨g, 0, none⟩) [x, y].length [x, y] := by
 refine ⟨rfl, (show (2 : Nat) ≤ 9223372036854775807 by decide), fun _ => ⟨_, rfl, fun j p hp => ?_⟩⟩
 match j, hp with
 | 0, hp =>
  simp only [List.getElem?_cons_zero, Option.some.injEq] at hp
  subst hp
  refine ⟨[.slice A x.f0.length c, .bool x.f1.f0, .int .i64 x.f1.f1, .slice A3 x.f1.f2.length c3], rfl, k37_mk w1 x hx.c0 hx.r0 hx.c3 hx.r3, fun i u hu => ?_⟩
  have e : (⟨g, 0, none⟩ : Addr).add (0 * k37.sz + i) = ⟨g, i, none⟩ := by rw [Nat.zero_mul, Nat.zero_add, add_at, Nat.zero_add]
  rw [e]
  refine (blk_cell hb i).trans ?_
  match i, hu with
  | 0, hu | 1, hu | 2, hu | 3, hu => simpa using hu
  | i + 4, hu => simp at hu
 | 1, hp =>
  simp only [List.getElem?_cons_succ, List.getElem?_cons_zero, Option.some.injEq] at hp
  subst hp
  refine ⟨[.slice B y.f0.length d, .bool y.f1.f0, .int .i64 y.f1.f1, .slice B3 y.f1.f2.length d3], rfl, k37_mk w1 y hy.c0 hy.r0 hy.c3 hy.r3, fun i u hu => ?_⟩
  have hz : k37.sz = 4 := rfl
  have e : (⟨g, 0, none⟩ : Addr).add (1 * k37.sz + i) = ⟨g, 4 + i, none⟩ := by rw [hz, Nat.one_mul, add_at, Nat.zero_add]
  rw [e]
  refine (blk_cell hb (4 + i)).trans ?_
  match i, hu with
  | 0, hu | 1, hu | 2, hu | 3, hu => simpa using hu
  | i + 4, hu => simp at hu
 | j + 2, hp => simp at hp
abbrev cellV (x : S37) (A : Option Addr) (c : Nat) (A3 : Option Addr) (c3 : Nat) : Array Value := #[.slice A x.f0.length c, .bool x.f1.f0, .int .i64 x.f1.f1, .slice A3 x.f1.f2.length c3]
structure NetAt (w : World) (P : List S68) (AP : Option Addr) (cP : Nat) (Q : List S71) (AQ : Option Addr) (cQ : Nat) : Prop where
 p : Kd.C k68 w AP P.length P
 cp : P.length ≤ cP
 q : Kd.C k71 w AQ Q.length Q
 cq : Q.length ≤ cQ
theorem NetAt.below {w w1 : World} {P : List S68} {AP : Option Addr} {cP : Nat} {Q : List S71} {AQ : Option Addr} {cQ : Nat} (h : NetAt w P AP cP Q AQ cQ) (k : Below w.heap.size w w1) : NetAt w1 P AP cP Q AQ cQ :=
 ⟨Kd.C_below h.p k, h.cp, Kd.C_below h.q k, h.cq⟩
end Go.Proofs.YtbefbhghmommhaaGreatDoor.MWo
