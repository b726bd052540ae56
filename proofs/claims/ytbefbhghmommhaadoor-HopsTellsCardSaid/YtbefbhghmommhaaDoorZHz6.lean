/- Texts of this claim, laid together by a program (wip/g/merge5.py): MWox3, Hr, MWox4. -/
import Derived.Test.YtbefbhghmommhaaDoorZHz4
import Derived.Test.YtbefbhghmommhaaDoorZHz5
namespace Go.Proofs.YtbefbhghmommhaaDoor.MWo
open Go.RowKit Go.Proofs.YtbefbhghmommhaaDoorW.PrintWords Go.Proofs.YtbefbhghmommhaaDoorW.PrintLast Go.Proofs.YtbefbhghmommhaaDoorW.PrintMore
attribute [local go_sem] mp_u32s mp_u32m mp_u8s mp_u8m max2_int min2_int max_two min_two max_three min_three max_four min_four
set_option linter.unusedVariables false
set_option linter.unusedSimpArgs false
def bits_Mul.f (a0 : Int) (a1 : Int) : Option (Int × Int) := (bits_Mul64.f a0 a1).bind fun bt101 => (some (bt101.1, bt101.2))
set_option maxHeartbeats 8000000 in
set_option maxRecDepth 100000 in
theorem bits_Mul.calls (a0 : Int) (a1 : Int) (r1 : Int) (r2 : Int) (w : World) (h : bits_Mul.f a0 a1 = some (r1, r2)) :
  Calls Tryd.prog 30 #[.int .u64 a0, .int .u64 a1] w fun e w' => e = .returned (.tuple #[.int .u64 r1, .int .u64 r2]) ∧ Drawn0 w w' := by
 have H : ((bits_Mul64.f a0 a1).bind fun bt101 => (some (bt101.1, bt101.2))) = some (r1, r2) := h
 clear h
 replace H := bS H
 obtain ⟨⟨t101, t102⟩, A30, H⟩ := H
 replace H : (some (t101, t102)) = some (r1, r2) := H
 have A3 := am A30
 clear A30
 simp only [Option.some.injEq, Prod.mk.injEq] at H
 obtain ⟨rfl, rfl⟩ := H
 go_enter Tryd.func30, Tryd.ntmps30
 go_wp2_with (first | ((with_reducible refine gate_callee (f := 36) rfl ?_); refine goesL_ (some 25) rfl rfl Tryd.func36 (by kernel_rfl) rfl #[.int .u64 a0, .int .u64 a1] rfl lm ?_; (with_reducible refine (bits_Mul64.calls a0 a1 t101 t102 _ A3.out).mono ?_); rintro e w' ⟨rfl, ⟨nd, rfl⟩⟩; refine ⟨_, rfl, ?_⟩))
 go_ret2
 exact ⟨sd, dn⟩
end Go.Proofs.YtbefbhghmommhaaDoor.MWo
set_option linter.unusedVariables false
set_option linter.unusedSimpArgs false
namespace Go.Proofs.YtbefbhghmommhaaDoor.MWo
open Go.RowKit Go.Proofs.YtbefbhghmommhaaDoorW.PrintWords Go.Proofs.YtbefbhghmommhaaDoorW.PrintLast Go.Proofs.YtbefbhghmommhaaDoorW.PrintMore
theorem mul_one_ {n : Int} (h1 : 1 ≤ n) (h6 : n ≤ 6) : bits_Mul.f 1 n = some (0, n) := by
 rcases (show n = 1 ∨ n = 2 ∨ n = 3 ∨ n = 4 ∨ n = 5 ∨ n = 6 from by omega) with rfl | rfl | rfl | rfl | rfl | rfl <;> kernel_rfl
theorem blk_sets {t : Nat} {g : Nat} : ∀ (vs : List Value) (o : Nat) (w : World) (cur : Array Value), w.heap[g]? = some (.cells cur t (0, 0)) → o + vs.length ≤ cur.size →
  ∃ cur', (w.setCells g o vs).heap[g]? = some (.cells cur' t (0, 0)) ∧ cur'.size = cur.size ∧ (∀ j, j < o → cur'[j]? = cur[j]?) ∧ (∀ j v, vs[j]? = some v → cur'[o + j]? = some v)
 | [], o, w, cur, h, hl => ⟨cur, h, rfl, fun _ _ => rfl, fun j v hj => by simp at hj⟩
 | x :: vs, o, w, cur, h, hl => by
  simp only [List.length_cons] at hl
  have h1 := blk_set h o x
  obtain ⟨cur', h2, h3, h4, h5⟩ := blk_sets vs (o + 1) (w.setCell ⟨g, o, none⟩ x) _ h1 (by simp; omega)
  refine ⟨cur', h2, by rw [h3]; simp, fun j hj => ?_, fun j v hj => ?_⟩
  ·rw [h4 j (by omega)]
   simp [Array.getElem?_setIfInBounds, show ¬ o = j by omega]
  ·cases j with
   | zero =>
    simp at hj
    rw [Nat.add_zero, h4 o (by omega), ← hj]
    simp [Array.getElem?_setIfInBounds, show o < cur.size by omega]
   | succ j =>
    have := h5 j v (by simpa using hj)
    rw [show o + (j + 1) = o + 1 + j by omega]
    exact this
theorem below_sets {B g : Nat} {w0 : World} : ∀ (vs : List Value) (o : Nat) (w : World), Below B w0 w → B ≤ g → Below B w0 (w.setCells g o vs)
 | [], _, _, h, _ => h
 | v :: r, o, w, h, hb => below_sets r (o + 1) _ (h.setCell hb v) hb
def Part (W : World) (B n k : Nat) (v : Int) : Prop := ∃ cur, W.heap[B]? = some (.cells cur 3 (0, 0)) ∧ cur.size = n ∧ ∀ j, j < k → cur[j]? = some (.int .i64 v)
theorem Part.more {W : World} {B n k m : Nat} {v : Int} (h : Part W B n k v) (hm : k + m ≤ n) : Part (W.setCells B k (List.replicate m (.int .i64 v))) B n (k + m) v := by
 obtain ⟨cur, h1, h2, h3⟩ := h
 obtain ⟨cur', g1, g2, g3, g4⟩ := blk_sets (List.replicate m (.int .i64 v)) k W cur h1 (by rw [List.length_replicate, h2]; exact hm)
 refine ⟨cur', g1, by rw [g2, h2], fun j hj => ?_⟩
 by_cases c : j < k
 ·rw [g3 j c, h3 j c]
 ·have := g4 (j - k) (.int .i64 v) (by rw [List.getElem?_replicate, if_pos (by omega)])
  rw [show k + (j - k) = j by omega] at this
  exact this
theorem Part.row {W : World} {B n : Nat} {v : Int} (h : Part W B n n v) (base : Nat) (hb : base ≤ B) (hn : n ≤ 1000) : Kd.R (Kd.int .i64) 3 W base (fun _ => True) (.slice (some ⟨B, 0, none⟩) n n) (List.replicate n v) := by
 obtain ⟨cur, h1, h2, h3⟩ := h
 refine Kd.R_of_own ?_ (fun _ _ => trivial)
 rw [List.length_replicate]
 refine ⟨by simp [encs], .inr ⟨B, n, cur, rfl, hb, h1, Nat.le_refl _, by unfold maxLen; omega, by rw [h2, Nat.mul_one], ?_⟩⟩
 apply List.ext_getElem?
 intro j
 by_cases hj : j < n
 ·rw [List.getElem?_take, if_pos (by omega), Array.getElem?_toList, h3 j hj]
  simp [encs, hj]
 ·rw [List.getElem?_take, if_neg (by omega)]
  symm
  rw [List.getElem?_eq_none_iff]
  simp [encs]
  omega
theorem Part.copy {W : World} {B n k : Nat} {v : Int} (h : Part W B n k v) (hk : k ≤ n) (c1 c2 : Nat) : (Builtin.copy_ #[29, 29] 3 #[.slice (some ⟨B, k, none⟩) (n - k) c1, .slice (some ⟨B, 0, none⟩) k c2]).run Tryd.prog W = .ok (goInt (Nat.min k (n - k))) (W.setCells B k (List.replicate (Nat.min k (n - k)) (.int .i64 v))) := by
 obtain ⟨cur, h1, h2, h3⟩ := h
 have hm1 : Nat.min k (n - k) ≤ k := Nat.min_le_left _ _
 have hm2 : Nat.min k (n - k) ≤ n - k := Nat.min_le_right _ _
 have := run_copy_cells (P := Tryd.prog) W 29 29 3 3 B k (n - k) c1 ⟨B, 0, none⟩ k c2 (List.replicate (Nat.min k (n - k)) (.int .i64 v)) Tryd.underlying29 (by kernel_rfl) (by rw [List.length_replicate])
  (fun j u hj => by
   rw [List.getElem?_replicate] at hj
   split at hj
   ·rename_i hlt
    injection hj with hj
    subst hj
    have e : (⟨B, 0, none⟩ : Addr).add j = ⟨B, j, none⟩ := by simp [Addr.add]; intro h; omega
    rw [e]
    exact (blk_cell h1 j).trans (h3 j (by omega))
   ·cases hj)
  (fun j hj => by
   rw [List.length_replicate] at hj
   rw [blk_cell h1]
   rw [Array.getElem?_eq_getElem (by omega)]
   rfl)
  (fun j hj => blk_frozen h1 _)
  (fun u hu => by rw [List.eq_of_mem_replicate hu]; rfl)
 rw [List.length_replicate] at this
 exact this
set_option maxHeartbeats 4000000 in
set_option maxRecDepth 4000 in
theorem repeat_walk (A0 : Option Addr) (c0 : Nat) (v : Int) (n : Nat) (w : World) (hr : Kd.C (Kd.int .i64) w A0 1 [v]) (h1 : 1 ≤ n) (h6 : n ≤ 6) :
  Calls Tryd.prog 24 #[.slice A0 1 c0, .int .i64 n] w fun e w' => ∃ u, e = .returned u ∧ Kd.R (Kd.int .i64) 3 w' w.heap.size (fun _ => True) u (List.replicate n v) ∧ Below w.heap.size w w' := by
 have HM := am (mul_one_ (n := (n : Int)) (by omega) (by omega))
 have hd0 : decide ((n : Int) < 0) = false := dF (by omega)
 have hd1 : decide ((9223372036854775807 : Int) < (n : Int)) = false := dF (by omega)
 have hm1 : (n : Int) % 18446744073709551616 = n := by omega
 have hm2 : wrap64 (n : Int) = n := by unfold wrap64; omega
 obtain ⟨ad, e, x0⟩ := Kd.at_int hr 0 (by omega) (by omega)
 cases e
 have HX := am x0
 have H1 := am h1
 have H6 := am h6
 clear hr x0 h1 h6
 go_enter Tryd.func24, Tryd.ntmps24
 go_wp2_with fail
 refine (bits_Mul.calls 1 (n : Int) 0 n _ HM.out).mono ?_
 rintro e w1 ⟨rfl, hD⟩
 have HB := am hD.below
 have hx1 : w1.cell? ad = some (.int .i64 v) := (hD.below.cell (p := ad) (block_lt_of_cell HX.out)).trans HX.out
 clear hD
 obtain ⟨i0, hi, hz⟩ := Option.map_eq_some_iff.1 info3
 simp only [Prod.mk.injEq] at hz
 have hmk := run_make (P := Tryd.prog) w1 29 3 i0 (.int .i64 0) Tryd.underlying29 hi hz.1 .i64 .i64 n n (by omega) (Int.le_refl _) (by rw [hz.2.2]; have := H6.out; omega) (by have := H6.out; omega)
 rw [hz.2.1, Nat.mul_one, Int.toNat_natCast] at hmk
 have hP0 : Part (w1.alloc (.cells (madeCells (Value.int IntKind.i64 0).cells n) 3)) w1.heap.size n 0 v := ⟨_, heap_alloc_new _ _, size_madeCells _ _, fun j hj => absurd hj (by omega)⟩
 have HB2 := am (below_alloc HB.out (Obj.cells (madeCells (Value.int IntKind.i64 0).cells n) 3))
 have hx2 : (w1.alloc (.cells (madeCells (Value.int IntKind.i64 0).cells n) 3)).cell? ad = some (.int .i64 v) := ((below_alloc (Below.refl w1.heap.size w1) _).cell (p := ad) (block_lt_of_cell hx1)).trans hx1
 generalize w1.alloc (.cells (madeCells (Value.int IntKind.i64 0).cells n) 3) = w2 at *
 have HBb := am HB.out.size
 generalize w1.heap.size = B at *
 have hcp : (Builtin.copy_ #[29, 29] 3 #[.slice (some ⟨B, 0, none⟩) n n, .slice (some ad) 1 c0]).run Tryd.prog w2 = .ok (goInt 1) (w2.setCells B 0 [.int .i64 v]) := by
  obtain ⟨cur, g1, g2, _⟩ := hP0
  refine run_copy_cells (P := Tryd.prog) w2 29 29 3 3 B 0 n n ad 1 c0 [.int .i64 v] Tryd.underlying29 (by kernel_rfl) (by show 1 = min 1 n; have := H1.out; omega) (fun j u hj => ?_) (fun j hj => ?_) (fun j hj => blk_frozen g1 _) (fun u hu => by rw [List.mem_singleton.1 hu]; rfl)
  ·match j, hj with
   | 0, hj => simp at hj; rw [← hj]; exact hx2
   | j + 1, hj => simp at hj
  ·have hj0 : j = 0 := by simpa using hj
   subst hj0
   rw [blk_cell g1, Array.getElem?_eq_getElem (by have := H1.out; omega)]
   rfl
 have hP1 := am (hP0.more (m := 1) (by have := H1.out; omega))
 have HB3 := am (below_sets [.int .i64 v] 0 w2 HB2.out HBb.out)
 have hsz : i0.size = 1 := hz.2.1
 have HCF := am (fun (k : Nat) (h0 : k < n) => cut_from (P := Tryd.prog) 29 3 .i64 Tryd.underlying29 hi 1 hsz (some ⟨B, 0, none⟩) n n (k : Int) (by omega) (by omega))
 have HCT := am (fun (k : Nat) (h0 : k ≤ n) => cut_to (P := Tryd.prog) 29 3 .i64 Tryd.underlying29 hi (some ⟨B, 0, none⟩) n n (k : Int) (by omega) (by omega) (Nat.le_refl _))
 clear hP0 hx1 hx2 hi hz
 go_wp2_with fail
 clear hcp hmk hm1 hm2 hd0 hd1 HX
 go_loopg [8] n (fun kq v8 w' => ∃ k : Nat, v8 = .int .i64 k ∧ Aside0 (n ≤ kq + k) ∧ Aside0 (1 ≤ k ∧ k ≤ n) ∧ Aside0 (Below w.heap.size w w') ∧ Aside0 (Part w' B n k v))
 case atStart => exact ⟨1, rfl, ⟨by omega⟩, ⟨by have := H1.out; omega⟩, HB3, hP1⟩
 case round =>
  clear HB3 hP1
  obtain ⟨k, rfl, HK, HKn, HBr, hPr⟩ := hrel
  by_cases hk : k < n
  ·have hlt : decide ((k : Int) < (n : Int)) = true := dT (by omega)
   have cf := HCF.out k hk
   have ct := HCT.out k (Nat.le_of_lt hk)
   rw [if_neg (by have := HKn.out; omega)] at cf
   simp only [Int.toNat_natCast, Option.map_some] at cf ct
   rw [show ((⟨B, 0, none⟩ : Addr).add (k * 1)) = ⟨B, k, none⟩ by simp [Addr.add]; intro h; omega] at cf
   have HBd := am (below_drew HBr.out)
   have hPd : Aside0 (Part wr.drew B n k v) := ⟨hPr.out⟩
   have hcp := hPd.out.copy (Nat.le_of_lt hk) (n - k) n
   obtain ⟨m, hm⟩ : ∃ m, Nat.min k (n - k) = m := ⟨_, rfl⟩
   have Hm := am hm
   have HmB : Aside0 (1 ≤ m ∧ k + m ≤ n) := ⟨by have := HKn.out; have h1 := Nat.min_le_right k (n - k); have h2 : Nat.min k (n - k) = min k (n - k) := rfl; omega⟩
   rw [hm] at hcp
   clear hm
   have hw : wrap64 ((k : Int) + (m : Int)) = (k : Int) + m := by have := HmB.out; have := H6.out; unfold wrap64; omega
   cases gk with
   | zero => exact absurd HK.out (by omega)
   | succ k1 =>
   go_wp2_with fail
   refine start_ (n := 10) (S := fun w' => True) (ds := []) #[false, false, false, false, false, false, false, false, false, false] (by kernel_rfl) rfl rfl trivial (fun hHeld => ?_)
   generalize wr.drew = wd at HBd hPd hcp hHeld ⊢
   refine pu 0 38 ?_
   refine pu 1 39 ?_
   refine pu 2 40 ?_
   refine pu 3 41 ?_
   refine pu 4 42 ?_
   refine pu 5 43 ?_
   refine pu 6 44 ?_
   refine on 7 45 (fun K hK => ?_)
   refine value_ (w1 := ?_) (v := ?_) (by rfl) rfl ?_ ?_
   rotate_left 2
   ·go_simp
    constructor
    ·rfl
    ·rfl
   have HB4 := am (below_sets (List.replicate m (.int .i64 v)) k wd HBd.out HBb.out)
   have hP4 := am (hPd.out.more (m := m) HmB.out.2)
   refine hK.out _ _ trivial (fun hHeld => ?_)
   clear hK K
   refine norm_ (a' := ?_) ?_ ?_
   rotate_left
   ·show Act.put _ (some 45) _ = _
    simp only [Act.put, sAa, sBb, sCc, i64_w, i32_w]
    rfl
   refine pu 8 46 ?_
   refine pu 9 8 ?_
   refine done_ (by kernel_rfl) ?_
   go_wp2_with fail
   go_roundg k1
   case measure => have := HK.out; have := HmB.out; omega
   case rel => exact ⟨k + m, (by first | rfl | simp), ⟨by have := HK.out; have := HmB.out; omega⟩, ⟨by have := HmB.out; omega⟩, HB4, hP4⟩
  ·have hkn : k = n := by have := HKn.out; omega
   subst hkn
   have hlt : decide ((k : Int) < (k : Int)) = false := dF (by omega)
   go_wp2_with fail
   go_ret
   exact ⟨_, rfl, hPr.out.row _ HBb.out (by have := H6.out; omega), HBr.out⟩
end Go.Proofs.YtbefbhghmommhaaDoor.MWo
namespace Go.Proofs.YtbefbhghmommhaaDoor.MWo
open Go.RowKit Go.Proofs.YtbefbhghmommhaaDoorW.PrintWords Go.Proofs.YtbefbhghmommhaaDoorW.PrintLast Go.Proofs.YtbefbhghmommhaaDoorW.PrintMore
attribute [local go_sem] mp_u32s mp_u32m mp_u8s mp_u8m max2_int min2_int max_two min_two max_three min_three max_four min_four
set_option linter.unusedVariables false
set_option linter.unusedSimpArgs false
def slices_Repeat_int_int.f (l0 : List Int) (a1 : Int) : Option (List Int) := if l0.length = 1 ∧ 1 ≤ a1 ∧ a1 ≤ 6 then some (List.replicate a1.toNat (l0.headD 0)) else none
theorem slices_Repeat_int_int.calls (A0 : Option Addr) (c0 : Nat) (l0 : List Int) (a1 : Int) (r : List Int) (w : World) (hr0 : Kd.C (Kd.int .i64) w A0 l0.length l0) (hc0 : l0.length ≤ c0) (h : slices_Repeat_int_int.f l0 a1 = some r) :
  Calls Tryd.prog 24 #[.slice A0 l0.length c0, .int .i64 a1] w fun e w' => ∃ v, e = .returned v ∧ Kd.R (Kd.int .i64) 3 w' w.heap.size (fun _ => True) v r ∧ Below w.heap.size w w' := by
 unfold slices_Repeat_int_int.f at h
 split at h
 ·rename_i hc
  obtain ⟨h1, h2, h3⟩ := hc
  injection h with h
  subst h
  obtain ⟨n, hn⟩ := Int.eq_ofNat_of_zero_le (show 0 ≤ a1 by omega)
  subst hn
  match l0, h1 with
  | [v], _ => exact repeat_walk A0 c0 v n w hr0 (by omega) (by omega)
 ·cases h
end Go.Proofs.YtbefbhghmommhaaDoor.MWo
