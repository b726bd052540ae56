/- Texts of this claim, laid together by a program (wip/g/merge5.py): HSg, MWox45, HEq, HAg, HIf, Evl, HSy, HAw, MWox58, MWox61, MWox62, MWox63. -/
import Derived.Test.YtbefbhghmommhaaGreatDoorZWd6
import Derived.Lib.Strings
import Derived.Lib.Slices
import Derived.Lib.Walk
import Derived.Test.YtbefbhghmommhaaGreatDoorZWd4
import Derived.Test.YtbefbhghmommhaaGreatDoorZWd7
import Derived.Test.YtbefbhghmommhaaGreatDoorZWd3
set_option linter.unusedVariables false
set_option linter.unusedSimpArgs false
set_option maxRecDepth 100000
namespace Go.Proofs.YtbefbhghmommhaaGreatDoor.MWo
open Go.RowKit Go.Proofs.YtbefbhghmommhaaGreatDoorW.PrintWords Go.Proofs.YtbefbhghmommhaaGreatDoorW.PrintLast Go.Proofs.YtbefbhghmommhaaGreatDoorW.PrintMore
def timeB (x : Int) : Bool := decide (-1099511627776 ≤ x) && decide (x ≤ 1099511627776)
theorem time_walk (x : Int) (w : World) : Calls Tryz.prog 58 #[.int .i64 x] w fun e w' => e = .returned (.bool (timeB x)) ∧ w' = w := by
 go_enter Tryz.func58, Tryz.ntmps58
 by_cases h : -1099511627776 ≤ x
 ·by_cases h2 : x ≤ 1099511627776
  ·go_wp2
   go_ret
   exact ⟨by simp [timeB, h, h2], rfl⟩
  ·go_wp2
   go_ret
   exact ⟨by simp [timeB, h, h2], rfl⟩
 ·go_wp2
  go_ret
  exact ⟨by simp [timeB]; omega, rfl⟩
theorem notime_walk (x : Int) (w : World) : Calls Tryz.prog 57 #[.int .i64 x] w fun e w' => e = .returned (.bool (!timeB x)) ∧ w' = w := by
 have hT := time_walk x w
 generalize timeB x = b at hT ⊢
 go_enter Tryz.func57, Tryz.ntmps57
 go_wp2_with fail
 refine hT.mono ?_
 rintro e w1 ⟨rfl, rfl⟩
 go_wp2_with fail
 go_ret
 exact ⟨rfl, rfl⟩
theorem enter_sp (args : Array Value) (w : World) : (callFunc 57 args).run Tryz.prog w = .ok (.enter 57 args) w := entersT Tryz.func57 (by decide +kernel) rfl args w
def fstI {α : Type} (p : α → Bool) (l : List α) : Int := match l.findIdx? p with | some i => (i : Int) | none => -1
theorem fstI_hit {α : Type} {p : α → Bool} {l : List α} {i : Nat} (hi : i < l.length) (hp : p l[i] = true) (hb : ∀ (j : Nat) (h : j < l.length), j < i → p l[j] = false) : fstI p l = i := by
 have : l.findIdx? p = some i := by
  rw [List.findIdx?_eq_some_iff_getElem]
  exact ⟨hi, hp, fun j hj => by simp [hb j (by omega) hj]⟩
 unfold fstI
 rw [this]
theorem fstI_miss {α : Type} {p : α → Bool} {l : List α} (hb : ∀ (j : Nat) (h : j < l.length), p l[j] = false) : fstI p l = -1 := by
 have : l.findIdx? p = none := by
  rw [List.findIdx?_eq_none_iff]
  intro x hx
  obtain ⟨j, hj, rfl⟩ := List.mem_iff_getElem.1 hx
  exact hb j hj
 unfold fstI
 rw [this]
theorem fstI_any {α : Type} (p : α → Bool) (l : List α) : decide (0 ≤ fstI p l) = l.any p := by
 unfold fstI
 cases h : l.findIdx? p with
 | none =>
  rw [List.findIdx?_eq_none_iff] at h
  simp only [show decide ((0 : Int) ≤ -1) = false by decide]
  symm
  rw [List.any_eq_false]
  intro x hx
  simp [h x hx]
 | some i =>
  rw [List.findIdx?_eq_some_iff_getElem] at h
  obtain ⟨hi, hp, _⟩ := h
  simp only [show decide ((0 : Int) ≤ (i : Int)) = true from dT (by omega)]
  symm
  rw [List.any_eq_true]
  exact ⟨_, List.getElem_mem hi, hp⟩
theorem at_l {w : World} {A : Option Addr} {l : List Int} (h : Kd.C (Kd.int .i64) w A l.length l) {i : Nat} (hi : i < l.length) : ∃ ad, A = some ad ∧ w.cell? (ad.add i) = some (.int .i64 l[i]) := by
 obtain ⟨ad, e, hx⟩ := Kd.at_int h (i : Int) (by omega) (by omega)
 exact ⟨ad, e, by simpa [rd, hi] using hx⟩
set_option maxHeartbeats 1000000 in
theorem index64 (A0 : Option Addr) (c0 : Nat) (l : List Int) (w : World) (hr : Kd.C (Kd.int .i64) w A0 l.length l) (hl : l.length ≤ 1000000) :
  Calls Tryz.prog 73 #[.slice A0 l.length c0, .func (.func 57) #[] #[]] w fun e w' => e = .returned (.int .i64 (fstI (fun x => !timeB x) l)) ∧ w' = w := by
 have HR := am hr
 have eg := enter_sp
 clear hr
 go_enter Tryz.func73, Tryz.ntmps73
 go_wp2_with fail
 go_loopg [5, 8] (l.length + 1) (fun kq _ v8 w' => ∃ i : Nat, v8 = .int .i64 i ∧ Aside0 (kq + i = l.length + 1) ∧ Aside0 (w' = w) ∧ Aside0 (∀ (j : Nat) (h : j < l.length), j < i → (!timeB l[j]) = false))
 case atStart => exact ⟨0, rfl, ⟨by omega⟩, ⟨rfl⟩, ⟨fun j _ hj => absurd hj (by omega)⟩⟩
 case round =>
  obtain ⟨i, rfl, HK, HB, HN⟩ := hrel
  obtain rfl := HB.out
  by_cases hi : i < l.length
  ·obtain ⟨ad, e, x0⟩ := at_l HR.out hi
   cases e
   have hcall := notime_walk l[i] wr
   obtain ⟨x, hx⟩ : ∃ x, l[i] = x := ⟨_, rfl⟩
   rw [hx] at x0 hcall
   have HX := am hx
   clear hx
   have hlt : decide ((i : Int) < (l.length : Int)) = true := dT (by omega)
   have p0 := eq_true (show (0 : Int) ≤ (i : Int) by omega)
   have p1 := eq_true (show (i : Int) < (l.length : Int) by omega)
   have hw1 : wrap64 ((i : Int) + 1) = ((i + 1 : Nat) : Int) := by unfold wrap64; omega
   cases gk with
   | zero => exact absurd HK.out (by omega)
   | succ k1 =>
   cases hq : (!timeB x) with
   | true =>
    rw [hq] at hcall
    go_wp2_with fail
    refine hcall.mono ?_
    rintro e w' ⟨rfl, rfl⟩
    go_wp2_with fail
    go_ret
    refine ⟨?_, rfl⟩
    rw [fstI_hit (i := i) hi (by rw [HX.out]; exact hq) HN.out]
    rfl
   | false =>
    rw [hq] at hcall
    go_wp2_with fail
    refine hcall.mono ?_
    rintro e w' ⟨rfl, rfl⟩
    go_wp2_with fail
    go_roundg k1
    case measure => have := HK.out; omega
    case rel =>
     refine ⟨i + 1, rfl, ⟨by have := HK.out; omega⟩, ⟨rfl⟩, ⟨fun j h hj => ?_⟩⟩
     by_cases e : j = i
     ·subst e; rw [HX.out]; exact hq
     ·exact HN.out j h (by omega)
  ·have hlt : decide ((i : Int) < (l.length : Int)) = false := dF (by omega)
   go_wp2_with fail
   go_ret
   refine ⟨?_, rfl⟩
   rw [fstI_miss (fun j h => HN.out j h (by omega))]
   rfl
theorem contains64 (A0 : Option Addr) (c0 : Nat) (l : List Int) (w : World) (hr : Kd.C (Kd.int .i64) w A0 l.length l) (hl : l.length ≤ 1000000) :
  Calls Tryz.prog 56 #[.slice A0 l.length c0, .func (.func 57) #[] #[]] w fun e w' => e = .returned (.bool (l.any fun x => !timeB x)) ∧ w' = w := by
 have hi := index64 A0 c0 l w hr hl
 rw [← fstI_any]
 generalize fstI (fun x => !timeB x) l = r at hi ⊢
 clear hr hl
 go_enter Tryz.func56, Tryz.ntmps56
 go_wp2_with fail
 refine hi.mono ?_
 rintro e w1 ⟨rfl, rfl⟩
 go_wp2_with fail
 go_ret
 exact ⟨rfl, rfl⟩
theorem firstM {l : List Int} {n : Nat} (hn : 0 < n) (hnn : l.length = n) : Value.int .i64 (l[0]'(by omega)) = Value.int .i64 (Lib.maxOf (l.take 1)) := by
 have hl : 0 < l.length := by omega
 rw [Lib.maxOf_one]
 simp [hl]
set_option maxHeartbeats 2000000 in
theorem max64 (A0 : Option Addr) (c0 : Nat) (l : List Int) (w : World) (hr : Kd.C (Kd.int .i64) w A0 l.length l) (hn : 0 < l.length) (hbig : l.length ≤ 1000000) :
  Calls Tryz.prog 42 #[.slice A0 l.length c0] w fun e w' => e = .returned (.int .i64 (Lib.maxOf l)) ∧ w' = w := by
 obtain ⟨ad, rfl, hx⟩ := Kd.at_int hr 0 (by omega) (by omega)
 have hc : Aside0 (∀ j, j < l.length → w.cell? (ad.add j) = some (.int .i64 (l.getD j 0))) := ⟨fun j hj => by
  obtain ⟨ad', e, h⟩ := Kd.at_int hr (j : Int) (by omega) (by omega)
  cases e
  simpa [rd] using h⟩
 have h0 : w.cell? ad = some (.int .i64 (l.getD 0 0)) := by have h := hc.out 0 hn; simpa [Addr.add] using h
 clear hr hx
 have hlast : Lib.maxOf l = Lib.maxOf (l.take l.length) := by simp
 rw [hlast]
 clear hlast
 obtain ⟨n, hnn⟩ : ∃ n, l.length = n := ⟨_, rfl⟩
 rw [hnn] at hn hbig hc ⊢
 go_enter Tryz.func42, Tryz.ntmps42
 go_wp2
 go_loop [3, 4] (fun m i => ∃ k : Nat, 0 < k ∧ k ≤ n ∧ i = .int .i64 k ∧ m = .int .i64 (Lib.maxOf (l.take k))) (fun _ i => match i with | .int _ q => n - q.toNat | _ => 0)
 case atStart => exact ⟨1, Nat.one_pos, hn, rfl, firstM hn hnn⟩
 case round =>
  obtain ⟨k, hk0, hk, rfl, rfl⟩ := hrel
  have hcell : k < n → w.cell? (ad.add k) = some (.int .i64 (l.getD k 0)) := fun h => hc.out k h
  go_wp2
  ·have hlt : k < n := by assumption
   have hkl : k < l.length := by omega
   refine ⟨⟨k + 1, Nat.succ_pos k, by omega, by congr 1, ?_⟩, ?_⟩
   ·rw [Lib.maxOf_step l k hk0 (by omega)]
    simp [hkl]
   ·show n - ((k : Int) + 1).toNat < n - ((k : Int)).toNat
    omega
  ·have hge : ¬ k < n := by assumption
   have : k = n := by omega
   subst this
   go_ret
   exact ⟨rfl, rfl⟩
theorem firstN {l : List Int} {n : Nat} (hn : 0 < n) (hnn : l.length = n) : Value.int .i64 (l[0]'(by omega)) = Value.int .i64 (Lib.minOf (l.take 1)) := by
 have hl : 0 < l.length := by omega
 rw [Lib.minOf_one]
 simp [hl]
set_option maxHeartbeats 2000000 in
theorem min64 (A0 : Option Addr) (c0 : Nat) (l : List Int) (w : World) (hr : Kd.C (Kd.int .i64) w A0 l.length l) (hn : 0 < l.length) (hbig : l.length ≤ 1000000) :
  Calls Tryz.prog 43 #[.slice A0 l.length c0] w fun e w' => e = .returned (.int .i64 (Lib.minOf l)) ∧ w' = w := by
 obtain ⟨ad, rfl, hx⟩ := Kd.at_int hr 0 (by omega) (by omega)
 have hc : Aside0 (∀ j, j < l.length → w.cell? (ad.add j) = some (.int .i64 (l.getD j 0))) := ⟨fun j hj => by
  obtain ⟨ad', e, h⟩ := Kd.at_int hr (j : Int) (by omega) (by omega)
  cases e
  simpa [rd] using h⟩
 have h0 : w.cell? ad = some (.int .i64 (l.getD 0 0)) := by have h := hc.out 0 hn; simpa [Addr.add] using h
 clear hr hx
 have hlast : Lib.minOf l = Lib.minOf (l.take l.length) := by simp
 rw [hlast]
 clear hlast
 obtain ⟨n, hnn⟩ : ∃ n, l.length = n := ⟨_, rfl⟩
 rw [hnn] at hn hbig hc ⊢
 go_enter Tryz.func43, Tryz.ntmps43
 go_wp2
 go_loop [3, 4] (fun m i => ∃ k : Nat, 0 < k ∧ k ≤ n ∧ i = .int .i64 k ∧ m = .int .i64 (Lib.minOf (l.take k))) (fun _ i => match i with | .int _ q => n - q.toNat | _ => 0)
 case atStart => exact ⟨1, Nat.one_pos, hn, rfl, firstN hn hnn⟩
 case round =>
  obtain ⟨k, hk0, hk, rfl, rfl⟩ := hrel
  have hcell : k < n → w.cell? (ad.add k) = some (.int .i64 (l.getD k 0)) := fun h => hc.out k h
  go_wp2
  ·have hlt : k < n := by assumption
   have hkl : k < l.length := by omega
   refine ⟨⟨k + 1, Nat.succ_pos k, by omega, by congr 1, ?_⟩, ?_⟩
   ·rw [Lib.minOf_step l k hk0 (by omega)]
    simp [hkl]
   ·show n - ((k : Int) + 1).toNat < n - ((k : Int)).toNat
    omega
  ·have hge : ¬ k < n := by assumption
   have : k = n := by omega
   subst this
   go_ret
   exact ⟨rfl, rfl⟩
def sprd (l : List Int) : Int × Bool := if l = [] ∨ (l.any fun x => !timeB x) = true then (0, false) else (wrap64 (Lib.maxOf l - Lib.minOf l), true)
theorem gspread_walk (A0 : Option Addr) (c0 : Nat) (l : List Int) (w : World) (hr : Kd.C (Kd.int .i64) w A0 l.length l) (hl : l.length ≤ 1000000) :
  Calls Tryz.prog 32 #[.slice A0 l.length c0] w fun e w' => e = .returned (.tuple #[.int .i64 (sprd l).1, .bool (sprd l).2]) ∧ w' = w := by
 by_cases h0 : l = []
 ·subst h0
  go_enter Tryz.func32, Tryz.ntmps32
  go_wp2
  go_ret2
  exact ⟨rfl, rfl⟩
 ·have hn : 0 < l.length := List.length_pos_iff.2 h0
  have hc := contains64 A0 c0 l w hr hl
  have hM := max64 A0 c0 l w hr hn hl
  have hN := min64 A0 c0 l w hr hn hl
  have he : ((l.length : Int) == 0) = false := by simp; omega
  unfold sprd
  cases hb : (l.any fun x => !timeB x) with
  | true =>
   rw [hb] at hc
   rw [if_pos (Or.inr rfl)]
   clear hM hN hr
   go_enter Tryz.func32, Tryz.ntmps32
   go_wp2_with fail
   refine hc.mono ?_
   rintro e w1 ⟨rfl, rfl⟩
   go_wp2_with fail
   go_ret2
   exact ⟨rfl, rfl⟩
  | false =>
   rw [hb] at hc
   rw [if_neg (by rintro (h | h); exact h0 h; exact absurd h (by decide))]
   generalize Lib.maxOf l = M at hM ⊢
   generalize Lib.minOf l = N at hN ⊢
   clear hr
   go_enter Tryz.func32, Tryz.ntmps32
   go_wp2_with fail
   refine hc.mono ?_
   rintro e w1 ⟨rfl, rfl⟩
   go_wp2_with fail
   refine hM.mono ?_
   rintro e w1 ⟨rfl, rfl⟩
   go_wp2_with fail
   refine hN.mono ?_
   rintro e w1 ⟨rfl, rfl⟩
   go_wp2_with fail
   go_ret2
   exact ⟨rfl, rfl⟩
end Go.Proofs.YtbefbhghmommhaaGreatDoor.MWo
namespace Go.Proofs.YtbefbhghmommhaaGreatDoor.MWo
open Go.RowKit Go.Proofs.YtbefbhghmommhaaGreatDoorW.PrintWords Go.Proofs.YtbefbhghmommhaaGreatDoorW.PrintLast Go.Proofs.YtbefbhghmommhaaGreatDoorW.PrintMore
attribute [local go_sem] mp_u32s mp_u32m mp_u8s mp_u8m max2_int min2_int max_two min_two max_three min_three max_four min_four
set_option linter.unusedVariables false
set_option linter.unusedSimpArgs false
def watch_starts.l0 : Nat → List Int → List (S55) → Int → Int → Option (List Int)
 | 0, _, _, _, _ => none
 | k + 1, x3, x7, x8, x9 => if x9 < x8 then (if 0 ≤ x9 then (if x9 < (x7.length : Int) then (if x3.length < 17592186044416 then (watch_starts.l0 k (x3 ++ [(rd_T55 x7 x9).f3]) x7 x8 (wrap64 (x9 + 1))) else (none)) else (none)) else (none)) else (some x3)
def watch_starts.f (k : Nat) (l0_0 : List (S55)) (a0_1 : Bool) (a0_2 : Int) (l0_3 : List Int) : Option (List Int) := (watch_synced.f k l0_0 a0_1 a0_2 l0_3).bind fun t170 => (watch_starts.l0 k ([] : List Int) t170 (t170.length : Int) 0)
set_option maxHeartbeats 8000000 in
set_option maxRecDepth 100000 in
theorem watch_starts.calls (k : Nat) (A0_0 : Option Addr) (c0_0 : Nat) (l0_0 : List (S55)) (a0_1 : Bool) (a0_2 : Int) (A0_3 : Option Addr) (c0_3 : Nat) (l0_3 : List Int) (r : List Int) (w : World) (hr0_0 : Kd.C k55 w A0_0 l0_0.length l0_0) (hc0_0 : l0_0.length ≤ c0_0) (hr0_3 : Kd.C (Kd.int .i64) w A0_3 l0_3.length l0_3) (hc0_3 : l0_3.length ≤ c0_3) (h : watch_starts.f k l0_0 a0_1 a0_2 l0_3 = some r) :
  Calls Tryz.prog 31 #[.agg #[.slice A0_0 l0_0.length c0_0, .bool a0_1, .int .i64 a0_2, .slice A0_3 l0_3.length c0_3]] w fun e w' => ∃ v0_ : Value, e = .returned (v0_) ∧ Kd.R (Kd.int .i64) 2 w' w.heap.size (fun _ => True) v0_ r ∧ Below w.heap.size w w' := by
 have hu37 := Tryz.underlying37
 have hu55 := Tryz.underlying55
 have HR0_0 := am hr0_0
 have HC0_0 := am hc0_0
 clear hr0_0 hc0_0
 have HR0_3 := am hr0_3
 have HC0_3 := am hc0_3
 clear hr0_3 hc0_3
 have HB := am (Below.refl w.heap.size w)
 have H : ((watch_synced.f k l0_0 a0_1 a0_2 l0_3).bind fun t170 => (watch_starts.l0 k ([] : List Int) t170 (t170.length : Int) 0)) = some r := h
 clear h
 replace H := bS H
 obtain ⟨t170, A20, H⟩ := H
 replace H : (watch_starts.l0 k ([] : List Int) t170 (t170.length : Int) 0) = some r := H
 have A2 := am A20
 clear A20
 have H' := am H
 clear H
 go_enter Tryz.func31, Tryz.ntmps31
 go_wp2_with (first | ((with_reducible refine gate_dst (N := 1) rfl ?_); refine bxe 1 #[.slice A0_0 l0_0.length c0_0, .bool a0_1, .int .i64 a0_2, .slice A0_3 l0_3.length c0_3] 37 ?_; intro gb169 hg w3 hbox hb; have n0_ := am (below_step bl0 hb); have n1_ := am (hbox); have n2_ := am (gw0 hg); have n3_ := am (gw0 hg); clear HB; have HB := n0_; have BK169 := n1_; have GW169 := n2_; have GE169 := n3_; clear n0_ n1_ n2_ n3_; clear hb hbox hg; obtain ⟨hcz4_0, hcz4_1, hcz4_2, hcz4_3⟩ := cellsK4 BK169.out; obtain ⟨hfz4_0, hfz4_1, hfz4_2, hfz4_3⟩ := frozK4 BK169.out) | ((with_reducible refine gate_callee (f := 23) rfl ?_); refine goesL_ (some 7) rfl rfl Tryz.func23 (by kernel_rfl) rfl #[.agg #[.slice A0_0 l0_0.length c0_0, .bool a0_1, .int .i64 a0_2, .slice A0_3 l0_3.length c0_3]] rfl lm ?_; (with_reducible refine (watch_synced.calls k (fun k_ => k_ < w.heap.size) _ _ l0_0 a0_1 a0_2 _ _ l0_3 t170 _ ?side1 ?side2 ?side3 A2.out).mono ?_); (case side1 => exact Kd.V_mk HC0_0.out (Kd.F_below (Kd.C_F k55_heap HR0_0.out) (bl1 GE169))); (case side2 => exact kc HR0_3); (case side3 => exact HC0_3.out); rintro e w5 ⟨v171, rfl, ho0, hb⟩; refine ⟨_, rfl, ?_⟩; have n0_ := am (Kd.N_lower (Kd.N_mono (ok' := fun k_ => k_ ≠ gb169) ho0 (fun k_ hk_ => Or.elim hk_ (fun hs_ => fun e_ => Nat.not_le.2 hs_ (by rw [e_]; exact GW169.out)) (fun hn_ => (Kd.freshB (g := gb169) (o := .cells #[.slice A0_0 l0_0.length c0_0, .bool a0_1, .int .i64 a0_2, .slice A0_3 l0_3.length c0_3] 37 (0, 0)) (bk BK169) k_ hn_)))) (below_size (bl1 GE169))); have n1_ := am (blk_below (bk BK169) hb); have n2_ := am (below_step (bl1 GE169) hb); clear BK169; clear HB; have HO172 := n0_; have BK169 := n1_; have HB := n2_; clear n0_ n1_ n2_; (try clear hb); (try clear hb2); (try clear hk); (try clear hi); (try clear ho0); obtain ⟨Ao6, co6, eo6⟩ := Kd.N_slice HO172.out; subst eo6))
 go_loopg [3, 9] k (fun kq v3 v9 w' => ∃ (x3_1 : List Int) (x9_1 : Int), v9 = .int .i64 x9_1 ∧ Aside0 (watch_starts.l0 kq x3_1 t170 (t170.length : Int) x9_1 = some r) ∧ Aside0 (kq ≤ k) ∧ Aside0 (Kd.R (Kd.int .i64) 2 w' w.heap.size (fun _ => True) v3 x3_1) ∧ Aside0 (Kd.N k55 55 w' w.heap.size (fun k_ => some k_ ≠ (v3 : Value).ownBlock ∧ k_ ≠ gb169) (.slice Ao6 t170.length co6) t170) ∧ Aside0 (w'.heap[gb169]? = some (.cells #[(.slice A0_0 l0_0.length c0_0), .bool a0_1, .int .i64 a0_2, (.slice A0_3 l0_3.length c0_3)] 37 (0, 0))) ∧ Aside0 (Below w.heap.size w w'))
 case atStart => exact ⟨(([] : List Int)), (0), bx, H', ⟨Nat.le_refl _⟩, ⟨by first | exact Kd.R_nil _ _ _ _ _ | exact Kd.N_nil _ _ _ _ _ | exact Kd.V_nil _ _ _ _ _ | exact Kd.Q_nil _ _ _ _ _ | exact Kd.S_nil _ _ _ _ _⟩, ⟨by (with_reducible repeat (first | apply Kd.N_alloc | apply Kd.N_drewN | apply Kd.N_drew)); exact Kd.N_mono HO172.out (fun _ hk => ⟨(by simp [Value.ownBlock]), hk⟩)⟩, ⟨bk BK169⟩, ⟨bl1 GE169⟩⟩
 case round =>
  clear H'
  try clear c2
  try clear p2
  try clear c3
  try clear hcz4_0 hcz4_1 hcz4_2 hcz4_3
  try clear hfz4_0 hfz4_1 hfz4_2 hfz4_3
  obtain ⟨x3_1, x9_1, rfl, HA, HK1, HO_3, HO_7, BK169, HB⟩ := hrel
  cases gk with
  | zero => exact absurd HA.out (by simp [watch_starts.l0])
  | succ k1 =>
   have H := HA.out
   clear HA
   simp only [watch_starts.l0] at H
   by_cases c7 : x9_1 < (t170.length : Int)
   ·rw [if_pos c7] at H
    have c7b0 : decide (x9_1 < (t170.length : Int)) = true := dT c7
    clear c7
    by_cases c8 : 0 ≤ x9_1
    ·rw [if_pos c8] at H
     have c8b0 : decide (0 ≤ x9_1) = true := dT c8
     clear c8
     by_cases c9 : x9_1 < (t170.length : Int)
     ·rw [if_pos c9] at H
      have c9b0 : decide (x9_1 < (t170.length : Int)) = true := dT c9
      clear c9
      by_cases c10 : x3_1.length < 17592186044416
      ·rw [if_pos c10] at H
       have LMc10 := am c10
       clear c10
       obtain ⟨y175, hy175⟩ : ∃ y_ : List Int, y_ = (x3_1 ++ [(rd_T55 t170 x9_1).f3]) := ⟨_, rfl⟩
       replace H : (watch_starts.l0 k1 y175 t170 (t170.length : Int) (wrap64 (x9_1 + 1))) = some r := by first | (rw [hy175]; with_reducible exact H) | (have H2_ := (Option.bind_some _ _).symm.trans H; rw [hy175]; with_reducible exact H2_) | (have H2_ := (Option.bind_some _ _).symm.trans H; with_reducible exact H2_) | with_reducible exact H | (rw [hy175]; exact H) | exact H
       have Ny175 := am hy175
       clear hy175
       have H' := am H
       clear H
       have p173 : 0 ≤ (x9_1 : Int) := oT asm
       have q173 : x9_1 < (t170.length : Int) := oT asm
       obtain ⟨ad173, A173_5, c173_5, e173, hx173_0, hx173_1, hx173_2, hx173_3, hx173_4, hx173_5, hx173_6, hx173_7, hl173_5, hi173_5⟩ := at_T55 (Kd.N_reads' HO_7.out).2.2 x9_1 p173 q173
       cases e173
       obtain ⟨ce173, hce173, hMe173, hcc173⟩ := Kd.N_get HO_7.out z55 x9_1 p173 (by first | exact q173 | exact oT asm | (have e_ := (Kd.N_reads' HO_7.out).1; omega))
       obtain ⟨ua173_5, uc173_5, rfl, ul173_5, ge173_5⟩ := k55_openF hMe173
       have hv173_5 := hcc173 5 _ rfl
       rw [add_field _ _ 5 (by omega)] at hv173_5
       replace hv173_5 := Option.some.inj (hv173_5.symm.trans hx173_5)
       injection hv173_5 with hva_ hvn_ hvc_
       rw [hva_] at ge173_5
       rw [hvc_] at ul173_5
       have HL173_5 := am (show Kd.V (Kd.int .i64) 3 _ w.heap.size _ _ ((rd_T55 t170 x9_1).f5) from Kd.V_mk ul173_5 ge173_5)
       clear hva_ hvn_ hvc_ ge173_5 ul173_5
       clear hcc173 hce173
       have HR173_5 := am hi173_5
       have HC173_5 := am hl173_5
       clear hi173_5 hl173_5
       replace p173 := eq_true p173
       replace q173 := eq_true q173
       go_wp2_with (first | ((with_reducible refine gate_dst (N := 5) rfl ?_); refine bxe 5 #[.int .i64 0, .int .i64 0, .int .i64 0, .int .i64 0, .int .i64 0, .slice none 0 0, .int .i64 0, .int .i64 0] 55 ?_; intro gb174 hg w11 hbox hb; have n0_ := am (Kd.R_below (kr HO_3.out) hb); have n1_ := am (Kd.N_below (Kd.N_elderB (kn HO_7.out) gb174 (Nat.le_of_eq hg.symm)) hb); have n2_ := am (Kd.V_below (Kd.V_elderB (by (with_reducible repeat (first | apply Kd.V_alloc | apply Kd.V_drewN | apply Kd.V_drew)); exact HL173_5.out) gb174 (Nat.le_of_eq hg.symm)) hb); have n3_ := am (blk_below (bk BK169) hb); have n4_ := am (Kd.C_below (by repeat (first | (with_reducible exact HR173_5.out) | (with_reducible refine Kd.C_alloc ?_ _) | (with_reducible refine Kd.C_drewN ?_ _) | (with_reducible refine Kd.C_drew ?_) | exact HR173_5.out)) hb); have n5_ := am (below_step (bl1 GE169) hb); have n6_ := am (hbox); have n7_ := am (gw1 hg GE169); have n8_ := am (gw1 hg GE169); have n9_ := am (nl hg BK169); have n10_ := am (nr hg BK169); clear HO_3; clear HO_7; clear HL173_5; clear BK169; clear HR173_5; clear HB; have HO_3 := n0_; have HO_7 := n1_; have HL173_5 := n2_; have BK169 := n3_; have HR173_5 := n4_; have HB := n5_; have BK174 := n6_; have GW174 := n7_; have GE174 := n8_; have NB169_174 := n9_; have NB174_169 := n10_; clear n0_ n1_ n2_ n3_ n4_ n5_ n6_ n7_ n8_ n9_ n10_; clear hb hbox hg; have hnb12 := NB174_169.out; have hnc12 := NB169_174.out; obtain ⟨hcz13_0, hcz13_1, hcz13_2, hcz13_3, hcz13_4, hcz13_5, hcz13_6, hcz13_7⟩ := cellsK8 BK174.out; obtain ⟨hfz13_0, hfz13_1, hfz13_2, hfz13_3, hfz13_4, hfz13_5, hfz13_6, hfz13_7⟩ := frozK8 BK174.out) | ((with_reducible refine gate_builtin (b := .append) (xs := #[.tmp 13, .tmp 16]) rfl ?_); at_builtin; refine Kd.R_append (Kd.int .i64) (w0 := w) w.heap.size rfl (.tmp 13) (.tmp 16) 61 2 (.int .i64 0) 8 rfl Tryz.underlying61 info2 rfl (by decide) (by omega) u3 x3_1 ((rd_T55 t170 x9_1).f3) [.int .i64 ((rd_T55 t170 x9_1).f3)] (fun _ => True) (fun _ => False) rfl (by first | (go_simp; done) | (go_simp; rfl)) ?aP (fun _ hk => hk.elim) ?aF ?aO ?aB ?aS ?aL ?_; (case aP => exact rfl); (case aB => exact (bl2 GE169 GE174)); (case aF => exact (fun _ _ => trivial)); (case aO => exact (by (with_reducible repeat (first | apply Kd.R_alloc | apply Kd.R_drewN | apply Kd.R_drew)); exact Kd.R_mono (Kd.R_far (p := ⟨gb174, 7, none⟩) (Kd.R_far (p := ⟨gb174, 6, none⟩) (Kd.R_far (p := ⟨gb174, 5, none⟩) (Kd.R_far (p := ⟨gb174, 4, none⟩) (Kd.R_far (p := ⟨gb174, 3, none⟩) (Kd.R_far (p := ⟨gb174, 2, none⟩) (Kd.R_far (p := ⟨gb174, 1, none⟩) (Kd.R_far (p := ⟨gb174, 0, none⟩) (Kd.R_types HO_3.out BK174.out (by decide)) (fun _ hk => hk.2) (.int .i64 ((rd_T55 t170 x9_1).f0))) (fun _ hk => hk.2) (.int .i64 ((rd_T55 t170 x9_1).f1))) (fun _ hk => hk.2) (.int .i64 ((rd_T55 t170 x9_1).f2))) (fun _ hk => hk.2) (.int .i64 ((rd_T55 t170 x9_1).f3))) (fun _ hk => hk.2) (.int .i64 ((rd_T55 t170 x9_1).f4))) (fun _ hk => hk.2) (.slice A173_5 ((rd_T55 t170 x9_1).f5).length c173_5)) (fun _ hk => hk.2) (.int .i64 ((rd_T55 t170 x9_1).f6))) (fun _ hk => hk.2) (.int .i64 ((rd_T55 t170 x9_1).f7))) (fun _ hk => trivial))); (case aS => exact (below_size (bl2 GE169 GE174))); (case aL => have := LMc10.out; omega); intro v176 w14 ho hb hg hat; rw [← Ny175.out] at ho; have n0_ := am (Kd.N_afterv (ok := (fun k_ => k_ ≠ gb169 ∧ k_ ≠ gb174)) (by (with_reducible repeat (first | apply Kd.N_alloc | apply Kd.N_drewN | apply Kd.N_drew)); exact Kd.N_mono (Kd.N_far (p := ⟨gb174, 7, none⟩) (Kd.N_far (p := ⟨gb174, 6, none⟩) (Kd.N_far (p := ⟨gb174, 5, none⟩) (Kd.N_far (p := ⟨gb174, 4, none⟩) (Kd.N_far (p := ⟨gb174, 3, none⟩) (Kd.N_far (p := ⟨gb174, 2, none⟩) (Kd.N_far (p := ⟨gb174, 1, none⟩) (Kd.N_far (p := ⟨gb174, 0, none⟩) (Kd.N_mono HO_7.out (fun k_ hk => (⟨hk, hk.2⟩ : _ ∧ k_ ≠ gb174))) (fun _ hk => hk.2) (.int .i64 ((rd_T55 t170 x9_1).f0))) (fun _ hk => hk.2) (.int .i64 ((rd_T55 t170 x9_1).f1))) (fun _ hk => hk.2) (.int .i64 ((rd_T55 t170 x9_1).f2))) (fun _ hk => hk.2) (.int .i64 ((rd_T55 t170 x9_1).f3))) (fun _ hk => hk.2) (.int .i64 ((rd_T55 t170 x9_1).f4))) (fun _ hk => hk.2) (.slice A173_5 ((rd_T55 t170 x9_1).f5).length c173_5)) (fun _ hk => hk.2) (.int .i64 ((rd_T55 t170 x9_1).f6))) (fun _ hk => hk.2) (.int .i64 ((rd_T55 t170 x9_1).f7))) (fun _ hk => ⟨⟨hk.1.1.2, hk.1.2⟩, hk.1.1.1⟩)) hg hat); have n1_ := am (blk_grown (g := gb169) (o := .cells #[.slice A0_0 l0_0.length c0_0, .bool a0_1, .int .i64 a0_2, .slice A0_3 l0_3.length c0_3] 37 (0, 0)) (by (with_reducible repeat (first | refine blk_drewN ?_ _ | refine blk_drew ?_ | refine blk_alloc ?_ _)); refine blk_far ?_ NB169_174.out _; (with_reducible repeat (first | refine blk_drewN ?_ _ | refine blk_drew ?_ | refine blk_alloc ?_ _)); refine blk_far ?_ NB169_174.out _; (with_reducible repeat (first | refine blk_drewN ?_ _ | refine blk_drew ?_ | refine blk_alloc ?_ _)); refine blk_far ?_ NB169_174.out _; (with_reducible repeat (first | refine blk_drewN ?_ _ | refine blk_drew ?_ | refine blk_alloc ?_ _)); refine blk_far ?_ NB169_174.out _; (with_reducible repeat (first | refine blk_drewN ?_ _ | refine blk_drew ?_ | refine blk_alloc ?_ _)); refine blk_far ?_ NB169_174.out _; (with_reducible repeat (first | refine blk_drewN ?_ _ | refine blk_drew ?_ | refine blk_alloc ?_ _)); refine blk_far ?_ NB169_174.out _; (with_reducible repeat (first | refine blk_drewN ?_ _ | refine blk_drew ?_ | refine blk_alloc ?_ _)); refine blk_far ?_ NB169_174.out _; (with_reducible repeat (first | refine blk_drewN ?_ _ | refine blk_drew ?_ | refine blk_alloc ?_ _)); refine blk_far ?_ NB169_174.out _; exact bk BK169) hg (Kd.R_ne HO_3.out BK169.out (by decide))); have n2_ := am (Kd.V_afterv (ok := (fun k_ => some k_ ≠ (.slice (some ad173) t170.length co6 : Value).ownBlock ∧ k_ ≠ gb169 ∧ k_ ≠ gb174)) (by (with_reducible repeat (first | apply Kd.V_alloc | apply Kd.V_drewN | apply Kd.V_drew)); exact Kd.V_mono (Kd.V_far (p := ⟨gb174, 7, none⟩) (Kd.V_far (p := ⟨gb174, 6, none⟩) (Kd.V_far (p := ⟨gb174, 5, none⟩) (Kd.V_far (p := ⟨gb174, 4, none⟩) (Kd.V_far (p := ⟨gb174, 3, none⟩) (Kd.V_far (p := ⟨gb174, 2, none⟩) (Kd.V_far (p := ⟨gb174, 1, none⟩) (Kd.V_far (p := ⟨gb174, 0, none⟩) (Kd.V_mono HL173_5.out (fun k_ hk => (⟨hk, hk.2⟩ : _ ∧ k_ ≠ gb174))) (fun _ hk => hk.2) (.int .i64 ((rd_T55 t170 x9_1).f0))) (fun _ hk => hk.2) (.int .i64 ((rd_T55 t170 x9_1).f1))) (fun _ hk => hk.2) (.int .i64 ((rd_T55 t170 x9_1).f2))) (fun _ hk => hk.2) (.int .i64 ((rd_T55 t170 x9_1).f3))) (fun _ hk => hk.2) (.int .i64 ((rd_T55 t170 x9_1).f4))) (fun _ hk => hk.2) (.slice A173_5 ((rd_T55 t170 x9_1).f5).length c173_5)) (fun _ hk => hk.2) (.int .i64 ((rd_T55 t170 x9_1).f6))) (fun _ hk => hk.2) (.int .i64 ((rd_T55 t170 x9_1).f7))) (fun _ hk => ⟨⟨hk.1.1.2, ⟨hk.1.1.1.2, hk.1.2⟩⟩, hk.1.1.1.1⟩)) hg hat); have n3_ := am (blk_grown (g := gb174) (o := .cells #[.int .i64 ((rd_T55 t170 x9_1).f0), .int .i64 ((rd_T55 t170 x9_1).f1), .int .i64 ((rd_T55 t170 x9_1).f2), .int .i64 ((rd_T55 t170 x9_1).f3), .int .i64 ((rd_T55 t170 x9_1).f4), .slice A173_5 ((rd_T55 t170 x9_1).f5).length c173_5, .int .i64 ((rd_T55 t170 x9_1).f6), .int .i64 ((rd_T55 t170 x9_1).f7)] 55 (0, 0)) (by (with_reducible repeat (first | refine blk_drewN ?_ _ | refine blk_drew ?_ | refine blk_alloc ?_ _)); refine blk_put (cs := #[.int .i64 ((rd_T55 t170 x9_1).f0), .int .i64 ((rd_T55 t170 x9_1).f1), .int .i64 ((rd_T55 t170 x9_1).f2), .int .i64 ((rd_T55 t170 x9_1).f3), .int .i64 ((rd_T55 t170 x9_1).f4), .slice A173_5 ((rd_T55 t170 x9_1).f5).length c173_5, .int .i64 ((rd_T55 t170 x9_1).f6), .int .i64 0]) ?_ 7 _ rfl; (with_reducible repeat (first | refine blk_drewN ?_ _ | refine blk_drew ?_ | refine blk_alloc ?_ _)); refine blk_put (cs := #[.int .i64 ((rd_T55 t170 x9_1).f0), .int .i64 ((rd_T55 t170 x9_1).f1), .int .i64 ((rd_T55 t170 x9_1).f2), .int .i64 ((rd_T55 t170 x9_1).f3), .int .i64 ((rd_T55 t170 x9_1).f4), .slice A173_5 ((rd_T55 t170 x9_1).f5).length c173_5, .int .i64 0, .int .i64 0]) ?_ 6 _ rfl; (with_reducible repeat (first | refine blk_drewN ?_ _ | refine blk_drew ?_ | refine blk_alloc ?_ _)); refine blk_put (cs := #[.int .i64 ((rd_T55 t170 x9_1).f0), .int .i64 ((rd_T55 t170 x9_1).f1), .int .i64 ((rd_T55 t170 x9_1).f2), .int .i64 ((rd_T55 t170 x9_1).f3), .int .i64 ((rd_T55 t170 x9_1).f4), .slice none 0 0, .int .i64 0, .int .i64 0]) ?_ 5 _ rfl; (with_reducible repeat (first | refine blk_drewN ?_ _ | refine blk_drew ?_ | refine blk_alloc ?_ _)); refine blk_put (cs := #[.int .i64 ((rd_T55 t170 x9_1).f0), .int .i64 ((rd_T55 t170 x9_1).f1), .int .i64 ((rd_T55 t170 x9_1).f2), .int .i64 ((rd_T55 t170 x9_1).f3), .int .i64 0, .slice none 0 0, .int .i64 0, .int .i64 0]) ?_ 4 _ rfl; (with_reducible repeat (first | refine blk_drewN ?_ _ | refine blk_drew ?_ | refine blk_alloc ?_ _)); refine blk_put (cs := #[.int .i64 ((rd_T55 t170 x9_1).f0), .int .i64 ((rd_T55 t170 x9_1).f1), .int .i64 ((rd_T55 t170 x9_1).f2), .int .i64 0, .int .i64 0, .slice none 0 0, .int .i64 0, .int .i64 0]) ?_ 3 _ rfl; (with_reducible repeat (first | refine blk_drewN ?_ _ | refine blk_drew ?_ | refine blk_alloc ?_ _)); refine blk_put (cs := #[.int .i64 ((rd_T55 t170 x9_1).f0), .int .i64 ((rd_T55 t170 x9_1).f1), .int .i64 0, .int .i64 0, .int .i64 0, .slice none 0 0, .int .i64 0, .int .i64 0]) ?_ 2 _ rfl; (with_reducible repeat (first | refine blk_drewN ?_ _ | refine blk_drew ?_ | refine blk_alloc ?_ _)); refine blk_put (cs := #[.int .i64 ((rd_T55 t170 x9_1).f0), .int .i64 0, .int .i64 0, .int .i64 0, .int .i64 0, .slice none 0 0, .int .i64 0, .int .i64 0]) ?_ 1 _ rfl; (with_reducible repeat (first | refine blk_drewN ?_ _ | refine blk_drew ?_ | refine blk_alloc ?_ _)); refine blk_put (cs := #[.int .i64 0, .int .i64 0, .int .i64 0, .int .i64 0, .int .i64 0, .slice none 0 0, .int .i64 0, .int .i64 0]) ?_ 0 _ rfl; exact bk BK174) hg (Kd.R_ne HO_3.out BK174.out (by decide))); have n4_ := am (hb); have n5_ := am (ho); clear HO_7; clear BK169; clear HL173_5; clear BK174; clear HB; clear HO_3; have HO_7 := n0_; have BK169 := n1_; have HL173_5 := n2_; have BK174 := n3_; have HB := n4_; have HO177 := n5_; clear n0_ n1_ n2_ n3_ n4_ n5_; clear ho hb hg hat))
       go_roundg k1
       case measure => have := HK1.out; omega
       case rel => exact ⟨(y175), (wrap64 (x9_1 + 1)), bx, H', ⟨by have := HK1.out; omega⟩, ⟨kr HO177.out⟩, ⟨by (with_reducible repeat (first | apply Kd.N_alloc | apply Kd.N_drewN | apply Kd.N_drew)); exact Kd.N_mono HO_7.out (fun _ hk => ⟨hk.2, hk.1.1⟩)⟩, ⟨bk BK169⟩, ⟨bl2 GE169 GE174⟩⟩
      ·rw [if_neg c10] at H
       exact absurd H (by simp)
     ·rw [if_neg c9] at H
      exact absurd H (by simp)
    ·rw [if_neg c8] at H
     exact absurd H (by simp)
   ·rw [if_neg c7] at H
    have c7b0 : decide (x9_1 < (t170.length : Int)) = false := dF c7
    clear c7
    obtain rfl := Option.some.inj H
    go_wp2
    go_ret
    exact ⟨_, ew, kr HO_3.out, bl1 GE169⟩
end Go.Proofs.YtbefbhghmommhaaGreatDoor.MWo
set_option linter.unusedVariables false
set_option linter.unusedSimpArgs false
set_option maxRecDepth 100000
namespace Go.Proofs.YtbefbhghmommhaaGreatDoor.MWo
open Go.RowKit Go.Proofs.YtbefbhghmommhaaGreatDoorW.PrintWords Go.Proofs.YtbefbhghmommhaaGreatDoorW.PrintLast Go.Proofs.YtbefbhghmommhaaGreatDoorW.PrintMore
theorem eq_fst {l0 l1 : List Int} {i : Nat} (h0 : i < l0.length) (h1 : i < l1.length) (hne : l0[i] ≠ l1[i]) : l0 ≠ l1 := by
 intro e
 subst e
 exact hne rfl
theorem eq_all {l0 l1 : List Int} (hn : l0.length = l1.length) (h : ∀ (j : Nat) (h0 : j < l0.length) (h1 : j < l1.length), l0[j] = l1[j]) : l0 = l1 :=
 List.ext_getElem hn (fun j h0 h1 => h j h0 h1)
set_option maxHeartbeats 2000000 in
theorem equal_walk (A0 : Option Addr) (c0 : Nat) (l0 : List Int) (A1 : Option Addr) (c1 : Nat) (l1 : List Int) (w : World) (hr0 : Kd.C (Kd.int .i64) w A0 l0.length l0) (hr1 : Kd.C (Kd.int .i64) w A1 l1.length l1) (hl : l0.length ≤ 1000000) :
  Calls Tryz.prog 49 #[.slice A0 l0.length c0, .slice A1 l1.length c1] w fun e w' => e = .returned (.bool (decide (l0 = l1))) ∧ Below w.heap.size w w' := by
 have HR0 := am hr0
 have HR1 := am hr1
 clear hr0 hr1
 by_cases hn : l0.length = l1.length
 ·have hd : ((l0.length : Int) == (l1.length : Int)) = true := by simp [hn]
  have HNN := am hn
  clear hn
  go_enter Tryz.func49, Tryz.ntmps49
  go_wp2_with fail
  go_loopg [5, 13] (l0.length + 1) (fun kq _ v8 w' => ∃ i : Nat, v8 = .int .i64 i ∧ Aside0 (kq + i = l0.length + 1) ∧ Aside0 (Below w.heap.size w w') ∧ Aside0 (∀ (j : Nat) (h0 : j < l0.length) (h1 : j < l1.length), j < i → l0[j] = l1[j]))
  case atStart => exact ⟨0, rfl, ⟨by omega⟩, ⟨Below.refl _ _⟩, ⟨fun j _ _ hj => absurd hj (by omega)⟩⟩
  case round =>
   obtain ⟨i, rfl, HK, HB, HN⟩ := hrel
   by_cases hi : i < l0.length
   ·have hi1 : i < l1.length := by have := HNN.out; omega
    obtain ⟨ad, e, x0⟩ := at_l (Kd.C_below HR0.out HB.out) hi
    obtain ⟨bd, e', y0⟩ := at_l (Kd.C_below HR1.out HB.out) hi1
    subst e e'
    obtain ⟨x, hx⟩ : ∃ x, l0[i] = x := ⟨_, rfl⟩
    obtain ⟨y, hy⟩ : ∃ y, l1[i] = y := ⟨_, rfl⟩
    rw [hx] at x0
    rw [hy] at y0
    have HX := am hx
    have HY := am hy
    clear hx hy
    have hlt : decide ((i : Int) < (l0.length : Int)) = true := dT (by omega)
    have p0 := eq_true (show (0 : Int) ≤ (i : Int) by omega)
    have p1 := eq_true (show (i : Int) < (l0.length : Int) by omega)
    have p2 := eq_true (show (i : Int) < (l1.length : Int) by omega)
    have hw1 : wrap64 ((i : Int) + 1) = ((i + 1 : Nat) : Int) := by unfold wrap64; omega
    cases gk with
    | zero => exact absurd HK.out (by omega)
    | succ k1 =>
    cases hq : (x == y) with
    | false =>
     go_wp2_with fail
     go_quiet (fail)
     go_wp2_with fail
     go_ret
     refine ⟨?_, pw_below_drewN HB.out nq⟩
     have hne : l0 ≠ l1 := eq_fst hi hi1 (by rw [HX.out, HY.out]; exact fun e => by rw [e] at hq; simp at hq)
     rw [show decide (l0 = l1) = false from dF hne]
     rfl
    | true =>
     go_wp2_with fail
     go_quiet (fail)
     go_wp2_with fail
     go_roundg k1
     case measure => have := HK.out; omega
     case rel =>
      refine ⟨i + 1, rfl, ⟨by have := HK.out; omega⟩, ⟨pw_below_drewN HB.out nq⟩, ⟨fun j h0 h1 hj => ?_⟩⟩
      by_cases e : j = i
      ·subst e
       rw [HX.out, HY.out]
       exact by simpa using hq
      ·exact HN.out j h0 h1 (by omega)
   ·have hlt : decide ((i : Int) < (l0.length : Int)) = false := dF (by omega)
    go_wp2_with fail
    go_ret
    refine ⟨?_, HB.out⟩
    have he : l0 = l1 := eq_all HNN.out (fun j h0 h1 => HN.out j h0 h1 (by omega))
    rw [show decide (l0 = l1) = true from dT he]
    rfl
 ·have hd : ((l0.length : Int) == (l1.length : Int)) = false := by simp; omega
  go_enter Tryz.func49, Tryz.ntmps49
  go_wp2_with fail
  go_ret
  refine ⟨?_, Below.refl _ _⟩
  rw [show decide (l0 = l1) = false from dF (fun e => hn (by rw [e]))]
  rfl
set_option linter.unusedVariables false
set_option linter.unusedSimpArgs false
set_option maxRecDepth 100000
def unlike (y x : S55) : Bool := if x.f4 = y.f4 then (if x.f6 = y.f6 then !decide (x.f5 = y.f5) else true) else true
structure Fst (w : World) (ad : Addr) (y : S55) (B5 : Option Addr) (d5 : Nat) : Prop where
 c4 : w.cell? ⟨ad.block, ad.off + 4, none⟩ = some (.int .i64 y.f4)
 c6 : w.cell? ⟨ad.block, ad.off + 6, none⟩ = some (.int .i64 y.f6)
 c5 : w.cell? ⟨ad.block, ad.off + 5, none⟩ = some (.slice B5 y.f5.length d5)
theorem c_lt {w : World} {a : Addr} {v : Value} (h : w.cell? a = some v) : a.block < w.heap.size := World.block_lt_of_cell? _ _ h
theorem Fst.below {w w1 : World} {ad : Addr} {y : S55} {B5 : Option Addr} {d5 : Nat} (h : Fst w ad y B5 d5) (k : Below w.heap.size w w1) : Fst w1 ad y B5 d5 :=
 ⟨(k.cell (c_lt h.c4)).trans h.c4, (k.cell (c_lt h.c6)).trans h.c6, (k.cell (c_lt h.c5)).trans h.c5⟩
set_option maxHeartbeats 2000000 in
theorem unlike_walk (x y : S55) (A5 : Option Addr) (c5 : Nat) (B5 : Option Addr) (d5 : Nat) (ad : Addr) (n c lb : Nat) (w : World) (hn : 0 < n)
  (hx : Kd.C (Kd.int .i64) w A5 x.f5.length x.f5) (hy : Kd.C (Kd.int .i64) w B5 y.f5.length y.f5) (hl : x.f5.length ≤ 1000000) (hb : w.cell? ⟨lb, 0, none⟩ = some (.slice (some ad) n c)) (hf : Fst w ad y B5 d5) :
  Calls Tryz.prog 48 #[.agg #[.int .i64 x.f0, .int .i64 x.f1, .int .i64 x.f2, .int .i64 x.f3, .int .i64 x.f4, .slice A5 x.f5.length c5, .int .i64 x.f6, .int .i64 x.f7], .pointer (some ⟨lb, 0, none⟩)] w fun e w' => e = .returned (.bool (unlike y x)) ∧ Below w.heap.size w w' := by
 have HL := am hl
 have HX := am hx
 have HY := am hy
 have kb := below_alloc (Below.refl w.heap.size w) (.cells #[.int .i64 x.f0, .int .i64 x.f1, .int .i64 x.f2, .int .i64 x.f3, .int .i64 x.f4, .slice A5 x.f5.length c5, .int .i64 x.f6, .int .i64 x.f7] 55)
 have HBX := am (heap_alloc_new w (.cells #[.int .i64 x.f0, .int .i64 x.f1, .int .i64 x.f2, .int .i64 x.f3, .int .i64 x.f4, .slice A5 x.f5.length c5, .int .i64 x.f6, .int .i64 x.f7] 55))
 have HB := am kb
 have HC5 := am (Kd.C_below hx kb)
 have HD5 := am (Kd.C_below hy kb)
 have HF := am (hf.below kb)
 have HLB := am ((kb.cell (c_lt hb)).trans hb)
 have p1 := eq_true (show (0 : Int) < (n : Int) by omega)
 clear hx hy hl hb hf kb
 have hu : ∀ r, unlike y x = r → r = unlike y x := fun _ h => h.symm
 by_cases h4 : x.f4 = y.f4
 ·have b4 : (x.f4 == y.f4) = true := by simp [h4]
  by_cases h6 : x.f6 = y.f6
  ·rw [show unlike y x = !decide (x.f5 = y.f5) by unfold unlike; rw [if_pos h4, if_pos h6]]
   have n4 : (x.f4 != y.f4) = false := by simp [h4]
   have n6 : (x.f6 != y.f6) = false := by simp [h6]
   have b6 : (x.f6 == y.f6) = true := by simp [h6]
   clear h4 h6 hu
   go_enter Tryz.func48, Tryz.ntmps48
   go_wp2_with fail
   generalize w.alloc (.cells #[.int .i64 x.f0, .int .i64 x.f1, .int .i64 x.f2, .int .i64 x.f3, .int .i64 x.f4, .slice A5 x.f5.length c5, .int .i64 x.f6, .int .i64 x.f7] 55) = w1 at *
   obtain ⟨xb, hxb⟩ : ∃ xb, xb = w.heap.size := ⟨_, rfl⟩
   rw [← hxb] at HBX ⊢
   have x4 : w1.cell? ⟨xb, 4, none⟩ = some (.int .i64 x.f4) := (blk_cell HBX.out 4).trans rfl
   have x6 : w1.cell? ⟨xb, 6, none⟩ = some (.int .i64 x.f6) := (blk_cell HBX.out 6).trans rfl
   have x5 : w1.cell? ⟨xb, 5, none⟩ = some (.slice A5 x.f5.length c5) := (blk_cell HBX.out 5).trans rfl
   have y4 := HF.out.c4
   have y6 := HF.out.c6
   have y5 := HF.out.c5
   have l0 := HLB.out
   have HXB := am hxb
   clear hxb
   have dd0 : w1.drew.cell? ⟨xb, 4, none⟩ = some (.int .i64 x.f4) := x4
   have dd1 : w1.drew.cell? ⟨xb, 6, none⟩ = some (.int .i64 x.f6) := x6
   have dd2 : w1.drew.cell? ⟨xb, 5, none⟩ = some (.slice A5 x.f5.length c5) := x5
   have dd3 : w1.drew.cell? ⟨lb, 0, none⟩ = some (.slice (some ad) n c) := l0
   have dd4 : w1.drew.cell? ⟨ad.block, ad.off + 4, none⟩ = some (.int .i64 y.f4) := y4
   have dd5 : w1.drew.cell? ⟨ad.block, ad.off + 6, none⟩ = some (.int .i64 y.f6) := y6
   have dd6 : w1.drew.cell? ⟨ad.block, ad.off + 5, none⟩ = some (.slice B5 y.f5.length d5) := y5
   refine start_ (n := 27) (S := fun w' => w'.cell? ⟨xb, 4, none⟩ = some (.int .i64 x.f4) ∧ w'.cell? ⟨xb, 6, none⟩ = some (.int .i64 x.f6) ∧ w'.cell? ⟨xb, 5, none⟩ = some (.slice A5 x.f5.length c5) ∧ w'.cell? ⟨lb, 0, none⟩ = some (.slice (some ad) n c) ∧ w'.cell? ⟨ad.block, ad.off + 4, none⟩ = some (.int .i64 y.f4) ∧ w'.cell? ⟨ad.block, ad.off + 6, none⟩ = some (.int .i64 y.f6) ∧ w'.cell? ⟨ad.block, ad.off + 5, none⟩ = some (.slice B5 y.f5.length d5)) (ds := []) #[false, false, false, false, false, false, false, false, false, false, false, false, false, false, false, false, false, false, false, false, false, false, false, false, false, false, false] (by kernel_rfl) rfl rfl ⟨dd0, dd1, dd2, dd3, dd4, dd5, dd6⟩ (fun hHeld => ?_)
   refine pu 0 4 ?_
   refine tk7 1 5 ?_
   refine tk7 2 6 ?_
   refine pu 3 7 ?_
   refine pu 4 8 ?_
   refine tk7 5 9 ?_
   refine pu 6 10 ?_
   refine pu 7 11 ?_
   refine pu 8 12 ?_
   refine tk7 9 13 ?_
   refine tk7 10 14 ?_
   refine pu 11 15 ?_
   refine pu 12 16 ?_
   refine tk7 13 17 ?_
   refine pu 14 18 ?_
   refine pu 15 19 ?_
   refine pu 16 20 ?_
   refine pu 17 21 ?_
   refine tk7 18 22 ?_
   refine tk7 19 23 ?_
   refine pu 20 24 ?_
   refine pu 21 25 ?_
   refine tk7 22 26 ?_
   refine on 23 27 (fun K hK => ?_)
   refine goes_ Tryz.func49 (by kernel_rfl) rfl #[.slice A5 x.f5.length c5, .slice B5 y.f5.length d5] (by rfl) rfl rfl lm ?_
   with_reducible refine (equal_walk A5 c5 x.f5 B5 d5 y.f5 _ (Kd.C_below HC5.out (Below.refl _ _).drew) (Kd.C_below HD5.out (Below.refl _ _).drew) HL.out).mono ?_
   rintro e w3 ⟨rfl, hb3⟩
   have HBE := am (HB.out.drew.trans (hb3.mono (Nat.le_trans HB.out.size (Nat.le_refl _))))
   have z0 := (hb3.cell (c_lt dd0)).trans dd0
   have z1 := (hb3.cell (c_lt dd1)).trans dd1
   have z2 := (hb3.cell (c_lt dd2)).trans dd2
   have z3 := (hb3.cell (c_lt dd3)).trans dd3
   have z4 := (hb3.cell (c_lt dd4)).trans dd4
   have z5 := (hb3.cell (c_lt dd5)).trans dd5
   have z6 := (hb3.cell (c_lt dd6)).trans dd6
   clear hb3
   refine ⟨_, rfl, ?_⟩
   refine hK.out _ _ ⟨z0, z1, z2, z3, z4, z5, z6⟩ (fun hHeld => ?_)
   clear hK K
   refine norm_ (a' := ?_) ?_ ?_
   rotate_left
   ·show Act.put _ (some 27) _ = _
    simp only [Act.put, sAa, sBb, sCc, i64_w, i32_w]
    rfl
   refine pu 24 28 ?_
   refine pu 25 29 ?_
   refine pu 26 3 ?_
   refine done_ (by kernel_rfl) ?_
   try go_wp2_with fail
   go_ret
   exact ⟨rfl, HBE.out⟩
  ·rw [show unlike y x = true by unfold unlike; rw [if_pos h4, if_neg h6]]
   have b6 : (x.f6 == y.f6) = false := by simp [h6]
   have n4 : (x.f4 != y.f4) = false := by simp [h4]
   have n6 : (x.f6 != y.f6) = true := by simp [h6]
   clear h4 h6 hu
   go_enter Tryz.func48, Tryz.ntmps48
   go_wp2_with fail
   generalize w.alloc (.cells #[.int .i64 x.f0, .int .i64 x.f1, .int .i64 x.f2, .int .i64 x.f3, .int .i64 x.f4, .slice A5 x.f5.length c5, .int .i64 x.f6, .int .i64 x.f7] 55) = w1 at *
   obtain ⟨xb, hxb⟩ : ∃ xb, xb = w.heap.size := ⟨_, rfl⟩
   rw [← hxb] at HBX ⊢
   have x4 : w1.cell? ⟨xb, 4, none⟩ = some (.int .i64 x.f4) := (blk_cell HBX.out 4).trans rfl
   have x6 : w1.cell? ⟨xb, 6, none⟩ = some (.int .i64 x.f6) := (blk_cell HBX.out 6).trans rfl
   have x5 : w1.cell? ⟨xb, 5, none⟩ = some (.slice A5 x.f5.length c5) := (blk_cell HBX.out 5).trans rfl
   have y4 := HF.out.c4
   have y6 := HF.out.c6
   have y5 := HF.out.c5
   have l0 := HLB.out
   have HXB := am hxb
   clear hxb
   go_quiet (fail)
   go_wp2_with fail
   go_ret
   exact ⟨rfl, pw_below_drewN HB.out nq⟩
 ·rw [show unlike y x = true by unfold unlike; rw [if_neg h4]]
  have b4 : (x.f4 == y.f4) = false := by simp [h4]
  have n4 : (x.f4 != y.f4) = true := by simp [h4]
  clear h4 hu
  go_enter Tryz.func48, Tryz.ntmps48
  go_wp2_with fail
  generalize w.alloc (.cells #[.int .i64 x.f0, .int .i64 x.f1, .int .i64 x.f2, .int .i64 x.f3, .int .i64 x.f4, .slice A5 x.f5.length c5, .int .i64 x.f6, .int .i64 x.f7] 55) = w1 at *
  obtain ⟨xb, hxb⟩ : ∃ xb, xb = w.heap.size := ⟨_, rfl⟩
  rw [← hxb] at HBX ⊢
  have x4 : w1.cell? ⟨xb, 4, none⟩ = some (.int .i64 x.f4) := (blk_cell HBX.out 4).trans rfl
  have x6 : w1.cell? ⟨xb, 6, none⟩ = some (.int .i64 x.f6) := (blk_cell HBX.out 6).trans rfl
  have x5 : w1.cell? ⟨xb, 5, none⟩ = some (.slice A5 x.f5.length c5) := (blk_cell HBX.out 5).trans rfl
  have y4 := HF.out.c4
  have y6 := HF.out.c6
  have y5 := HF.out.c5
  have l0 := HLB.out
  have HXB := am hxb
  clear hxb
  go_quiet (fail)
  go_wp2_with fail
  go_ret
  exact ⟨rfl, pw_below_drewN HB.out nq⟩
abbrev nodeV (x : S55) (A5 : Option Addr) (c5 : Nat) : Value := .agg #[.int .i64 x.f0, .int .i64 x.f1, .int .i64 x.f2, .int .i64 x.f3, .int .i64 x.f4, .slice A5 x.f5.length c5, .int .i64 x.f6, .int .i64 x.f7]
def PredN (g : Nat) (lb : Array Value) (p : S55 → Bool) (l : List S55) (w : World) : Prop :=
 ∀ (W : World) (x : S55) (A5 : Option Addr) (c5 : Nat), x ∈ l → Below w.heap.size w W → Kd.C (Kd.int .i64) W A5 x.f5.length x.f5 → x.f5.length ≤ c5 → Calls Tryz.prog g (#[nodeV x A5 c5] ++ lb) W fun e w' => e = .returned (.bool (p x)) ∧ Below W.heap.size W w'
theorem rd_n {l : List S55} {i : Int} (h0 : 0 ≤ i) (h1 : i < l.length) : rd_T55 l i = l[i.toNat]'(by omega) := by
 have : i.toNat < l.length := by omega
 simp [rd_T55, List.getD_eq_getElem?_getD, this]
set_option maxHeartbeats 2000000 in
theorem indexNode (p : S55 → Bool) (g : Nat) (lb : Array Value) (eg : ∀ args w, (callFunc g args).run Tryz.prog w = .ok (.enter g args) w) (A0 : Option Addr) (c0 : Nat) (l : List S55) (w : World)
  (hr : Kd.C k55 w A0 l.length l) (hl : l.length ≤ 1000000) (hp : PredN g lb p l w) :
  Calls Tryz.prog 53 #[.slice A0 l.length c0, .func (.func g) #[] lb] w fun e w' => e = .returned (.int .i64 (fstI p l)) ∧ Below w.heap.size w w' := by
 have HR := am hr
 have HP := am hp
 clear hr hp
 go_enter Tryz.func53, Tryz.ntmps53
 go_wp2_with fail
 go_loopg [5, 8] (l.length + 1) (fun kq _ v8 w' => ∃ i : Int, v8 = .int .i64 i ∧ Aside0 (kq + i = l.length + 1 ∧ 0 ≤ i) ∧ Aside0 (Below w.heap.size w w') ∧ Aside0 (∀ (j : Nat) (h : j < l.length), (j : Int) < i → p l[j] = false))
 case atStart => exact ⟨0, rfl, ⟨by omega⟩, ⟨Below.refl _ _⟩, ⟨fun j _ hj => absurd hj (by omega)⟩⟩
 case round =>
  obtain ⟨i, rfl, HK, HB, HN⟩ := hrel
  by_cases hi : i < (l.length : Int)
  ·have h0 := HK.out.2
   obtain ⟨ad, A5, c5, e, x0, x1, x2, x3, x4, x5, x6, x7, hc5, hC5⟩ := at_T55 (Kd.C_below HR.out HB.out) i h0 hi
   cases e
   have hx := rd_n h0 hi
   rw [hx] at x0 x1 x2 x3 x4 x5 x6 x7 hc5 hC5
   have hcall := HP.out wr _ A5 c5 (List.getElem_mem (show i.toNat < l.length by omega)) HB.out hC5 hc5
   have hlt : decide (i < (l.length : Int)) = true := dT hi
   obtain ⟨x, hxx⟩ : ∃ x, l[i.toNat]'(by omega) = x := ⟨_, rfl⟩
   rw [hxx] at x0 x1 x2 x3 x4 x5 x6 x7 hcall
   have HX := am hxx
   clear hx hxx hc5 hC5
   have p0 := eq_true h0
   have p1 := eq_true hi
   have hw1 : wrap64 (i + 1) = i + 1 := by unfold wrap64; omega
   cases gk with
   | zero => exact absurd HK.out (by omega)
   | succ k1 =>
   cases hq : p x with
   | true =>
    rw [hq] at hcall
    go_wp2_with fail
    refine hcall.mono ?_
    rintro e w' ⟨rfl, hb'⟩
    have HB' := am hb'
    clear hb'
    go_wp2_with fail
    go_ret
    refine ⟨?_, below_step HB.out HB'.out⟩
    rw [fstI_hit (i := i.toNat) (by omega) (by rw [HX.out]; exact hq) (fun j h hj => HN.out j h (by omega)), show ((i.toNat : Nat) : Int) = i by omega]
    rfl
   | false =>
    rw [hq] at hcall
    go_wp2_with fail
    refine hcall.mono ?_
    rintro e w' ⟨rfl, hb'⟩
    have HB' := am hb'
    clear hb'
    go_wp2_with fail
    go_roundg k1
    case measure => have := HK.out; omega
    case rel =>
     refine ⟨i + 1, rfl, ⟨by have := HK.out; omega⟩, ⟨below_step HB.out HB'.out⟩, ⟨fun j h hj => ?_⟩⟩
     by_cases e : j = i.toNat
     ·subst e; rw [HX.out]; exact hq
     ·exact HN.out j h (by omega)
  ·have hlt : decide (i < (l.length : Int)) = false := dF hi
   go_wp2_with fail
   go_ret
   refine ⟨?_, HB.out⟩
   rw [fstI_miss (fun j h => HN.out j h (by omega))]
   rfl
theorem containsNode (p : S55 → Bool) (g : Nat) (lb : Array Value) (eg : ∀ args w, (callFunc g args).run Tryz.prog w = .ok (.enter g args) w) (A0 : Option Addr) (c0 : Nat) (l : List S55) (w : World)
  (hr : Kd.C k55 w A0 l.length l) (hl : l.length ≤ 1000000) (hp : PredN g lb p l w) :
  Calls Tryz.prog 26 #[.slice A0 l.length c0, .func (.func g) #[] lb] w fun e w' => e = .returned (.bool (l.any p)) ∧ Below w.heap.size w w' := by
 have hi := indexNode p g lb eg A0 c0 l w hr hl hp
 rw [← fstI_any]
 generalize fstI p l = r at hi ⊢
 clear hr hl hp eg
 go_enter Tryz.func26, Tryz.ntmps26
 go_wp2_with fail
 refine hi.mono ?_
 rintro e w1 ⟨rfl, hb⟩
 have HB := am hb
 clear hb
 go_wp2_with fail
 go_ret
 exact ⟨rfl, HB.out⟩
theorem enter_ag (args : Array Value) (w : World) : (callFunc 48 args).run Tryz.prog w = .ok (.enter 48 args) w := entersT Tryz.func48 (by decide +kernel) rfl args w
end Go.Proofs.YtbefbhghmommhaaGreatDoor.MWo
namespace Go.Proofs.YtbefbhghmommhaaGreatDoor.Evl
open Go.Proofs.YtbefbhghmommhaaGreatDoorW.PrintWords
def Evl {α : Type} (g : Nat → Option α) (r : α) : Prop := ∃ K, ∀ k, K ≤ k → g k = some r
theorem Evl.now {α : Type} {g : Nat → Option α} {r : α} (h : ∀ k, g k = some r) : Evl g r := ⟨0, fun k _ => h k⟩
theorem Evl.step {α : Type} {g h : Nat → Option α} {r : α} (e : ∀ k, g (k + 1) = h k) (hh : Evl h r) : Evl g r := by
  obtain ⟨K, hK⟩ := hh
  exact ⟨K + 1, fun k hk => by obtain ⟨m, rfl⟩ : ∃ m, k = m + 1 := ⟨k - 1, by omega⟩; rw [e]; exact hK m (by omega)⟩
theorem Evl.succ {α : Type} {g : Nat → Option α} {r : α} (hh : Evl (fun k => g (k + 1)) r) : Evl g r := Evl.step (fun _ => rfl) hh
theorem Evl.stop {α : Type} {g : Nat → Option α} {r : α} (e : ∀ k, g (k + 1) = some r) : Evl g r := Evl.step (h := fun _ => some r) e (Evl.now fun _ => rfl)
theorem Evl.congr {α : Type} {g h : Nat → Option α} {r : α} (e : ∀ k, g k = h k) (hh : Evl h r) : Evl g r := by
  have : g = h := funext e
  rw [this]; exact hh
theorem Evl.bind {α β : Type} {f : Nat → Option α} {g : Nat → α → Option β} {a : α} {r : β} (hf : Evl f a) (hg : Evl (fun k => g k a) r) : Evl (fun k => (f k).bind (g k)) r := by
  obtain ⟨K, hK⟩ := hf
  obtain ⟨M, hM⟩ := hg
  exact ⟨max K M, fun k hk => by simp only [hK k (by omega), Option.bind_some]; exact hM k (by omega)⟩
theorem Evl.some_ {α : Type} {g : Nat → Option α} {r : α} (h : Evl g r) : ∃ k, g k = some r := by
  obtain ⟨K, hK⟩ := h
  exact ⟨K, hK K (Nat.le_refl _)⟩
theorem Evl.mono {α : Type} {g : Nat → Option α} {r : α} (h : ∀ k, LeO (g k) (g (k + 1))) {n : Nat} (hn : g n = some r) : Evl g r :=
  ⟨n, fun _ hk => at_rounds h hk hn⟩
theorem Evl.and {α β : Type} {f : Nat → Option α} {g : Nat → Option β} {a : α} {b : β} (hf : Evl f a) (hg : Evl g b) : ∃ K, ∀ k, K ≤ k → f k = some a ∧ g k = some b := by
  obtain ⟨K, hK⟩ := hf
  obtain ⟨M, hM⟩ := hg
  exact ⟨max K M, fun k hk => ⟨hK k (by omega), hM k (by omega)⟩⟩
end Go.Proofs.YtbefbhghmommhaaGreatDoor.Evl
set_option linter.unusedVariables false
set_option linter.unusedSimpArgs false
set_option maxRecDepth 100000
namespace Go.Proofs.YtbefbhghmommhaaGreatDoor.MWo
open Go.RowKit Go.Proofs.YtbefbhghmommhaaGreatDoorW.PrintWords Go.Proofs.YtbefbhghmommhaaGreatDoorW.PrintLast Go.Proofs.YtbefbhghmommhaaGreatDoorW.PrintMore Go.Proofs.YtbefbhghmommhaaGreatDoor.Evl
def syn (l : List S55) : List S55 := l.filter fun x => decide (x.f0 = 2)
theorem syn_len (l : List S55) : (syn l).length ≤ l.length := List.length_filter_le _ _
theorem w64n {i : Nat} (h : i < 2000000) : wrap64 ((i : Int) + 1) = ((i + 1 : Nat) : Int) := by unfold wrap64; omega
theorem synced_loop {l : List S55} (hl : l.length ≤ 1000000) : ∀ (d i : Nat) (o : List S55), i + d = l.length → o.length ≤ i → Evl (fun k => watch_synced.l0 k o l (l.length : Int) (i : Int)) (o ++ syn (l.drop i))
 | 0, i, o, h, _ => by
  refine Evl.succ ?_
  simp only [watch_synced.l0]
  simp only [if_neg (show ¬ ((i : Int) < (l.length : Int)) by omega), List.drop_eq_nil_iff.2 (show l.length ≤ i by omega)]
  exact Evl.now fun _ => by simp [syn]
 | d + 1, i, o, h, ho => by
  have hi : i < l.length := by omega
  refine Evl.succ ?_
  simp only [watch_synced.l0]
  simp only [if_pos (show (i : Int) < (l.length : Int) by omega), if_pos (show (0 : Int) ≤ (i : Int) by omega), w64n (show i < 2000000 by omega), if_pos (show o.length < 1759218604441 by omega)]
  rw [List.drop_eq_getElem_cons hi]
  have hr : rd_T55 l (i : Int) = l[i] := by rw [rd_n (by omega) (by omega)]; simp
  simp only [hr]
  by_cases e : (l[i]).f0 = 2
  ·simp only [if_pos e]
   have ih := synced_loop hl d (i + 1) (o ++ [l[i]]) (by omega) (by simp; omega)
   have e2 : syn (l[i] :: l.drop (i + 1)) = l[i] :: syn (l.drop (i + 1)) := by unfold syn; rw [List.filter_cons, if_pos (by simp [e])]
   rw [e2]
   rw [List.append_assoc] at ih
   exact ih
  ·simp only [if_neg e]
   have ih := synced_loop hl d (i + 1) o (by omega) (by omega)
   have e2 : syn (l[i] :: l.drop (i + 1)) = syn (l.drop (i + 1)) := by unfold syn; rw [List.filter_cons, if_neg (by simp [e])]
   rw [e2]
   exact ih
theorem synced_evl {l : List S55} (hl : l.length ≤ 1000000) (a1 : Bool) (a2 : Int) (l3 : List Int) : Evl (fun k => watch_synced.f k l a1 a2 l3) (syn l) := by
 have := synced_loop hl l.length 0 [] (by omega) (by simp)
 exact this
theorem starts_loop {l : List S55} (hl : l.length ≤ 1000000) : ∀ (d i : Nat) (o : List Int), i + d = l.length → o.length ≤ i → Evl (fun k => watch_starts.l0 k o l (l.length : Int) (i : Int)) (o ++ (l.drop i).map (·.f3))
 | 0, i, o, h, _ => by
  refine Evl.succ ?_
  simp only [watch_starts.l0]
  simp only [if_neg (show ¬ ((i : Int) < (l.length : Int)) by omega), List.drop_eq_nil_iff.2 (show l.length ≤ i by omega)]
  exact Evl.now fun _ => by simp
 | d + 1, i, o, h, ho => by
  have hi : i < l.length := by omega
  refine Evl.succ ?_
  simp only [watch_starts.l0]
  simp only [if_pos (show (i : Int) < (l.length : Int) by omega), if_pos (show (0 : Int) ≤ (i : Int) by omega), w64n (show i < 2000000 by omega), if_pos (show o.length < 17592186044416 by omega)]
  rw [List.drop_eq_getElem_cons hi]
  have hr : rd_T55 l (i : Int) = l[i] := by rw [rd_n (by omega) (by omega)]; simp
  simp only [hr]
  have ih := starts_loop hl d (i + 1) (o ++ [(l[i]).f3]) (by omega) (by simp; omega)
  rw [List.append_assoc] at ih
  exact ih
theorem starts_evl {l : List S55} (hl : l.length ≤ 1000000) (a1 : Bool) (a2 : Int) (l3 : List Int) : Evl (fun k => watch_starts.f k l a1 a2 l3) ((syn l).map (·.f3)) := by
 have h1 := synced_evl hl a1 a2 l3
 have h2 := starts_loop (l := syn l) (Nat.le_trans (syn_len l) hl) (syn l).length 0 [] (by omega) (by simp)
 exact Evl.bind h1 (by simpa using h2)
theorem synced_walk (A0 : Option Addr) (c0 : Nat) (l : List S55) (a1 : Bool) (a2 : Int) (A3 : Option Addr) (c3 : Nat) (l3 : List Int) (w : World) (hr0 : Kd.C k55 w A0 l.length l) (hc0 : l.length ≤ c0) (hr3 : Kd.C (Kd.int .i64) w A3 l3.length l3) (hc3 : l3.length ≤ c3) (hl : l.length ≤ 1000000) :
  Calls Tryz.prog 23 #[.agg #[.slice A0 l.length c0, .bool a1, .int .i64 a2, .slice A3 l3.length c3]] w fun e w' => ∃ A c, e = .returned (.slice A (syn l).length c) ∧ (syn l).length ≤ c ∧ Kd.C k55 w' A (syn l).length (syn l) ∧ Below w.heap.size w w' := by
 obtain ⟨k, hk⟩ := (synced_evl hl a1 a2 l3).some_
 refine (watch_synced.calls k (fun k_ => k_ < w.heap.size) A0 c0 l a1 a2 A3 c3 l3 _ w (Kd.V_mk hc0 (Kd.C_F k55_heap hr0)) hr3 hc3 hk).mono ?_
 rintro e w' ⟨v, rfl, ho, hb⟩
 obtain ⟨A, c, rfl, hc, hC⟩ := Kd.N_reads ho
 exact ⟨A, c, rfl, hc, hC, hb⟩
theorem starts_walk (A0 : Option Addr) (c0 : Nat) (l : List S55) (a1 : Bool) (a2 : Int) (A3 : Option Addr) (c3 : Nat) (l3 : List Int) (w : World) (hr0 : Kd.C k55 w A0 l.length l) (hc0 : l.length ≤ c0) (hr3 : Kd.C (Kd.int .i64) w A3 l3.length l3) (hc3 : l3.length ≤ c3) (hl : l.length ≤ 1000000) :
  Calls Tryz.prog 31 #[.agg #[.slice A0 l.length c0, .bool a1, .int .i64 a2, .slice A3 l3.length c3]] w fun e w' => ∃ v, e = .returned v ∧ Kd.R (Kd.int .i64) 2 w' w.heap.size (fun _ => True) v ((syn l).map (·.f3)) ∧ Below w.heap.size w w' := by
 obtain ⟨k, hk⟩ := (starts_evl hl a1 a2 l3).some_
 exact watch_starts.calls k A0 c0 l a1 a2 A3 c3 l3 _ w hr0 hc0 hr3 hc3 hk
set_option linter.unusedVariables false
set_option linter.unusedSimpArgs false
set_option maxRecDepth 100000
def agreeB (l : List S55) : Bool := match syn l with
 | [] => true
 | y :: t => !((y :: t).any (unlike y))
set_option maxHeartbeats 1000000 in
theorem agree_walk (A0 : Option Addr) (c0 : Nat) (l : List S55) (a1 : Bool) (a2 : Int) (A3 : Option Addr) (c3 : Nat) (l3 : List Int) (w : World) (hr0 : Kd.C k55 w A0 l.length l) (hc0 : l.length ≤ c0) (hr3 : Kd.C (Kd.int .i64) w A3 l3.length l3) (hc3 : l3.length ≤ c3) (hl : l.length ≤ 1000000) (hx : ∀ x ∈ l, x.f5.length ≤ 1000000) :
  Calls Tryz.prog 20 #[.agg #[.slice A0 l.length c0, .bool a1, .int .i64 a2, .slice A3 l3.length c3]] w fun e w' => e = .returned (.bool (agreeB l)) ∧ Below w.heap.size w w' := by
 have HL := am hl
 have HX := am (show ∀ x ∈ syn l, x.f5.length ≤ 1000000 from fun x h => hx x ((List.mem_filter.1 h).1))
 have hs := synced_walk A0 c0 l a1 a2 A3 c3 l3
 have kb := below_alloc (Below.refl w.heap.size w) (.cells #[.slice A0 l.length c0, .bool a1, .int .i64 a2, .slice A3 l3.length c3] 37)
 have HB := am kb
 have hs1 := hs _ (Kd.C_below hr0 kb) hc0 (Kd.C_below hr3 kb) hc3 hl
 clear hs kb hr0 hc0 hr3 hc3 hl hx
 have hlen : (syn l).length ≤ 1000000 := Nat.le_trans (syn_len l) HL.out
 have HLS := am hlen
 have HAG := am (show agreeB l = match syn l with | [] => true | y :: t => !((y :: t).any (unlike y)) from rfl)
 generalize agreeB l = r at HAG ⊢
 generalize syn l = s at hs1 HAG HX HLS
 clear hlen
 go_enter Tryz.func20, Tryz.ntmps20
 go_wp2_with fail
 refine hs1.mono ?_
 rintro e w1 ⟨A, c, rfl, hc, hC, hb⟩
 have HB1 := am (below_step HB.out hb)
 have kb2 := below_alloc (Below.refl w1.heap.size w1) (.cells #[.slice A s.length c] 32)
 have HC2 := am (Kd.C_below hC kb2)
 have HB2 := am (below_alloc HB1.out (.cells #[.slice A s.length c] 32))
 have HN2 := am (heap_alloc_new w1 (.cells #[.slice A s.length c] 32))
 clear hb hC hc kb2
 go_wp2_with fail
 generalize w1.alloc (.cells #[.slice A s.length c] 32) = w2 at *
 cases s with
 | nil =>
  refine (containsNode (fun _ => false) 48 #[.pointer (some ⟨w1.heap.size, 0, none⟩)] enter_ag A c [] w2 HC2.out (by decide) (fun _ _ _ _ hm => absurd hm (by simp))).mono ?_
  rintro e w3 ⟨rfl, hb⟩
  have HB3 := am (below_step HB2.out hb)
  clear hb
  go_wp2_with fail
  go_ret
  refine ⟨?_, HB3.out⟩
  rw [HAG.out]
  rfl
 | cons y t =>
  obtain ⟨ad, B5, d5, e, x0, x1, x2, x3, x4, x5, x6, x7, hc5, hC5⟩ := at_T55 HC2.out 0 (by omega) (by simp)
  cases e
  have hy : rd_T55 (y :: t) 0 = y := by simp [rd_T55]
  rw [hy] at x4 x5 x6 hC5
  have HF : Aside0 (Fst w2 ad y B5 d5) := ⟨⟨by simpa [Addr.add] using x4, by simpa [Addr.add] using x6, by simpa [Addr.add] using x5⟩⟩
  have HY5 := am hC5
  clear x0 x1 x2 x3 x4 x5 x6 x7 hc5 hC5 hy
  refine (containsNode (unlike y) 48 #[.pointer (some ⟨w1.heap.size, 0, none⟩)] enter_ag (some ad) c (y :: t) w2 HC2.out HLS.out (fun W x A5 c5 hm hB hC _ => ?_)).mono ?_
  ·exact unlike_walk x y A5 c5 B5 d5 ad (y :: t).length c w1.heap.size W (by simp) hC (Kd.C_below HY5.out hB) (HX.out x hm) ((hB.cell (c_lt ((blk_cell HN2.out 0).trans rfl))).trans ((blk_cell HN2.out 0).trans rfl)) (HF.out.below hB)
  rintro e w3 ⟨rfl, hb⟩
  have HB3 := am (below_step HB2.out hb)
  have HV : Aside0 (r = !((y :: t).any (unlike y))) := ⟨HAG.out⟩
  clear hb
  generalize (y :: t).any (unlike y) = q at HV ⊢
  go_wp2_with fail
  go_ret
  refine ⟨?_, HB3.out⟩
  rw [HV.out]
  rfl
end Go.Proofs.YtbefbhghmommhaaGreatDoor.MWo
namespace Go.Proofs.YtbefbhghmommhaaGreatDoor.MWo
open Go.RowKit Go.Proofs.YtbefbhghmommhaaGreatDoorW.PrintWords Go.Proofs.YtbefbhghmommhaaGreatDoorW.PrintLast Go.Proofs.YtbefbhghmommhaaGreatDoorW.PrintMore
attribute [local go_sem] mp_u32s mp_u32m mp_u8s mp_u8m max2_int min2_int max_two min_two max_three min_three max_four min_four
set_option linter.unusedVariables false
set_option linter.unusedSimpArgs false
def dr26_synced.l0 : Nat → List (S55) → Int → List (S55) → Bool → Int → List Int → Option ((List (S55)))
 | 0, _, _, _, _, _, _ => none
 | k + 1, x3, x4, x214000, x214001, x214002, x214003 => if x4 < (x214000.length : Int) then (if 0 ≤ x4 then (if ((rd_T55 x214000 x4).f0) = 2 then (if x3.length < 1759218604441 then (dr26_synced.l0 k (x3 ++ [(⟨(rd_T55 x214000 x4).f0, (rd_T55 x214000 x4).f1, (rd_T55 x214000 x4).f2, (rd_T55 x214000 x4).f3, (rd_T55 x214000 x4).f4, (rd_T55 x214000 x4).f5, (rd_T55 x214000 x4).f6, (rd_T55 x214000 x4).f7⟩ : S55)]) (wrap64 (x4 + 1)) x214000 x214001 x214002 x214003) else (none)) else (dr26_synced.l0 k x3 (wrap64 (x4 + 1)) x214000 x214001 x214002 x214003)) else (none)) else (some x3)
def dr26_synced.f (k : Nat) (l0_0 : List (S55)) (a0_1 : Bool) (a0_2 : Int) (l0_3 : List Int) : Option ((List (S55))) := dr26_synced.l0 k ([] : List (S55)) 0 l0_0 a0_1 a0_2 l0_3
set_option maxHeartbeats 8000000 in
set_option maxRecDepth 100000 in
theorem dr26_synced.calls (k : Nat) (P0_0_ : Nat → Prop) (A0_0 : Option Addr) (c0_0 : Nat) (l0_0 : List (S55)) (a0_1 : Bool) (a0_2 : Int) (A0_3 : Option Addr) (c0_3 : Nat) (l0_3 : List Int) (r : List (S55)) (w : World) (hs0_0 : Kd.V k55 55 w w.heap.size (fun k_ => P0_0_ k_) (.slice A0_0 l0_0.length c0_0) l0_0) (hr0_3 : Kd.C (Kd.int .i64) w A0_3 l0_3.length l0_3) (hc0_3 : l0_3.length ≤ c0_3) (h : dr26_synced.f k l0_0 a0_1 a0_2 l0_3 = some r) :
  Calls Tryz.prog 28 #[.agg #[.slice A0_0 l0_0.length c0_0, .bool a0_1, .int .i64 a0_2, .slice A0_3 l0_3.length c0_3]] w fun e w' => ∃ v0_ : Value, e = .returned (v0_) ∧ Kd.N k55 55 w' w.heap.size (fun k_ => (P0_0_ k_ ∨ w.heap.size ≤ k_)) v0_ r ∧ Below w.heap.size w w' := by
 have hu37 := Tryz.underlying37
 have hu55 := Tryz.underlying55
 have HO0_0 := am (show Kd.V k55 55 w w.heap.size (fun k_ => (P0_0_ k_ ∨ w.heap.size ≤ k_)) (.slice A0_0 l0_0.length c0_0) l0_0 from Kd.V_mono hs0_0 (fun k_ hk => .inl hk))
 have HR0_3 := am hr0_3
 have HC0_3 := am hc0_3
 clear hr0_3 hc0_3
 have HB := am (Below.refl w.heap.size w)
 have H : (dr26_synced.l0 k ([] : List (S55)) 0 l0_0 a0_1 a0_2 l0_3) = some r := h
 clear h
 have H' := am H
 clear H
 go_enter Tryz.func28, Tryz.ntmps28
 go_wp2_with (first | ((with_reducible refine gate_dst (N := 1) rfl ?_); refine bxe 1 #[.slice A0_0 l0_0.length c0_0, .bool a0_1, .int .i64 a0_2, .slice A0_3 l0_3.length c0_3] 37 ?_; intro gb213 hg w2 hbox hb; have n0_ := am (Kd.V_below (Kd.V_elderB (by (with_reducible repeat (first | apply Kd.V_alloc | apply Kd.V_drewN | apply Kd.V_drew)); exact HO0_0.out) gb213 (Nat.le_of_eq hg.symm)) hb); have n1_ := am (below_step bl0 hb); have n2_ := am (hbox); have n3_ := am (gw0 hg); have n4_ := am (gw0 hg); clear HO0_0; clear HB; have HO0_0 := n0_; have HB := n1_; have BK213 := n2_; have GW213 := n3_; have GE213 := n4_; clear n0_ n1_ n2_ n3_ n4_; clear hb hbox hg))
 go_loopg [3, 4] k (fun kq v3 v4 w' => ∃ (x3_1 : List (S55)) (x4_1 : Int), v4 = .int .i64 x4_1 ∧ Aside0 (dr26_synced.l0 kq x3_1 x4_1 l0_0 a0_1 a0_2 l0_3 = some r) ∧ Aside0 (kq ≤ k) ∧ Aside0 (Kd.N k55 55 w' w.heap.size (fun k_ => (P0_0_ k_ ∨ w.heap.size ≤ k_) ∧ k_ ≠ gb213) v3 x3_1) ∧ Aside0 (Kd.V k55 55 w' w.heap.size (fun k_ => (P0_0_ k_ ∨ w.heap.size ≤ k_) ∧ some k_ ≠ (v3 : Value).ownBlock ∧ k_ ≠ gb213) (.slice A0_0 l0_0.length c0_0) l0_0) ∧ Aside0 (w'.heap[gb213]? = some (.cells #[(.slice A0_0 l0_0.length c0_0), .bool a0_1, .int .i64 a0_2, (.slice A0_3 l0_3.length c0_3)] 37 (0, 0))) ∧ Aside0 (Below w.heap.size w w'))
 case atStart => exact ⟨(([] : List (S55))), (0), bx, H', ⟨Nat.le_refl _⟩, ⟨by first | exact Kd.S_nil _ _ _ _ _ | exact Kd.N_nil _ _ _ _ _ | exact Kd.V_nil _ _ _ _ _ | exact Kd.Q_nil _ _ _ _ _ | exact Kd.R_nil _ _ _ _ _⟩, ⟨by (with_reducible repeat (first | apply Kd.V_alloc | apply Kd.V_drewN | apply Kd.V_drew)); exact Kd.V_mono HO0_0.out (fun _ hk => ⟨hk.1, ⟨(by simp [Value.ownBlock]), hk.2⟩⟩)⟩, ⟨bk BK213⟩, ⟨bl1 GE213⟩⟩
 case round =>
  clear H'
  try clear c2
  try clear p2
  obtain ⟨x3_1, x4_1, rfl, HA, HK1, HO_3, HO_214000, BK213, HB⟩ := hrel
  cases gk with
  | zero => exact absurd HA.out (by simp [dr26_synced.l0])
  | succ k1 =>
   have H := HA.out
   clear HA
   simp only [dr26_synced.l0] at H
   by_cases c3 : x4_1 < (l0_0.length : Int)
   ·rw [if_pos c3] at H
    have c3b0 : decide (x4_1 < (l0_0.length : Int)) = true := dT c3
    clear c3
    by_cases c4 : 0 ≤ x4_1
    ·rw [if_pos c4] at H
     have c4b0 : decide (0 ≤ x4_1) = true := dT c4
     clear c4
     by_cases c5 : ((rd_T55 l0_0 x4_1).f0) = 2
     ·rw [if_pos c5] at H
      have c5b0 : (((rd_T55 l0_0 x4_1).f0) == 2) = true := beq_iff_eq.mpr c5
      have c5b1 : (((rd_T55 l0_0 x4_1).f0) != 2) = false := bne_eq_false_iff_eq.mpr c5
      clear c5
      by_cases c6 : x3_1.length < 1759218604441
      ·rw [if_pos c6] at H
       have LMc6 := am c6
       clear c6
       obtain ⟨y216, hy216⟩ : ∃ y_ : List (S55), y_ = (x3_1 ++ [(⟨(rd_T55 l0_0 x4_1).f0, (rd_T55 l0_0 x4_1).f1, (rd_T55 l0_0 x4_1).f2, (rd_T55 l0_0 x4_1).f3, (rd_T55 l0_0 x4_1).f4, (rd_T55 l0_0 x4_1).f5, (rd_T55 l0_0 x4_1).f6, (rd_T55 l0_0 x4_1).f7⟩ : S55)]) := ⟨_, rfl⟩
       replace H : (dr26_synced.l0 k1 y216 (wrap64 (x4_1 + 1)) l0_0 a0_1 a0_2 l0_3) = some r := by first | (rw [hy216]; with_reducible exact H) | (have H2_ := (Option.bind_some _ _).symm.trans H; rw [hy216]; with_reducible exact H2_) | (have H2_ := (Option.bind_some _ _).symm.trans H; with_reducible exact H2_) | with_reducible exact H | (rw [hy216]; exact H) | exact H
       have Ny216 := am hy216
       clear hy216
       have H' := am H
       clear H
       obtain ⟨hcz7_0, hcz7_1, hcz7_2, hcz7_3⟩ := cellsK4 BK213.out
       obtain ⟨hfz7_0, hfz7_1, hfz7_2, hfz7_3⟩ := frozK4 BK213.out
       have p214 : 0 ≤ (x4_1 : Int) := oT asm
       have q214 : x4_1 < (l0_0.length : Int) := oT asm
       obtain ⟨ad214, A214_5, c214_5, e214, hx214_0, hx214_1, hx214_2, hx214_3, hx214_4, hx214_5, hx214_6, hx214_7, hl214_5, hi214_5⟩ := at_T55 (Kd.V_reads' HO_214000.out).2.2 x4_1 p214 q214
       cases e214
       obtain ⟨ce214, hce214, hMe214, hcc214⟩ := Kd.V_get HO_214000.out z55 x4_1 p214 (by first | exact q214 | exact oT asm | (have e_ := (Kd.V_reads' HO_214000.out).1; omega))
       obtain ⟨ua214_5, uc214_5, rfl, ul214_5, ge214_5⟩ := k55_openF hMe214
       have hv214_5 := hcc214 5 _ rfl
       rw [add_field _ _ 5 (by omega)] at hv214_5
       replace hv214_5 := Option.some.inj (hv214_5.symm.trans hx214_5)
       injection hv214_5 with hva_ hvn_ hvc_
       rw [hva_] at ge214_5
       rw [hvc_] at ul214_5
       have HL214_5 := am (show Kd.V (Kd.int .i64) 3 _ w.heap.size _ _ ((rd_T55 l0_0 x4_1).f5) from Kd.V_mk ul214_5 ge214_5)
       clear hva_ hvn_ hvc_ ge214_5 ul214_5
       clear hcc214 hce214
       have HR214_5 := am hi214_5
       have HC214_5 := am hl214_5
       clear hi214_5 hl214_5
       replace p214 := eq_true p214
       replace q214 := eq_true q214
       have p215 : 0 ≤ (x4_1 : Int) := oT asm
       have q215 : x4_1 < (l0_0.length : Int) := oT asm
       obtain ⟨ad215, A215_5, c215_5, e215, hx215_0, hx215_1, hx215_2, hx215_3, hx215_4, hx215_5, hx215_6, hx215_7, hl215_5, hi215_5⟩ := at_T55 (Kd.V_reads' HO_214000.out).2.2 x4_1 p215 q215
       obtain rfl : ad214 = ad215 := (by injection e215)
       obtain ⟨ce215, hce215, hMe215, hcc215⟩ := Kd.V_get HO_214000.out z55 x4_1 p215 (by first | exact q215 | exact oT asm | (have e_ := (Kd.V_reads' HO_214000.out).1; omega))
       obtain ⟨ua215_5, uc215_5, rfl, ul215_5, ge215_5⟩ := k55_openF hMe215
       have hv215_5 := hcc215 5 _ rfl
       rw [add_field _ _ 5 (by omega)] at hv215_5
       replace hv215_5 := Option.some.inj (hv215_5.symm.trans hx215_5)
       injection hv215_5 with hva_ hvn_ hvc_
       rw [hva_] at ge215_5
       rw [hvc_] at ul215_5
       have HL215_5 := am (show Kd.V (Kd.int .i64) 3 _ w.heap.size _ _ ((rd_T55 l0_0 x4_1).f5) from Kd.V_mk ul215_5 ge215_5)
       clear hva_ hvn_ hvc_ ge215_5 ul215_5
       clear hcc215 hce215
       have HR215_5 := am hi215_5
       have HC215_5 := am hl215_5
       clear hi215_5 hl215_5
       replace p215 := eq_true p215
       replace q215 := eq_true q215
       have ea_ := Option.some.inj (hx214_5.symm.trans hx215_5)
       injection ea_ with ea_ en_ ec_
       subst ea_
       subst ec_
       clear en_
       go_wp2_with (first | ((with_reducible refine gate_builtin (b := .append) (xs := #[.tmp 19, .tmp 25]) rfl ?_); at_builtin; refine Kd.N_append k55 (w0 := w) w.heap.size rfl (.tmp 19) (.tmp 25) 32 55 (.agg #[(.int .i64 0), (.int .i64 0), (.int .i64 0), (.int .i64 0), (.int .i64 0), (.slice none 0 0), (.int .i64 0), (.int .i64 0)]) 80 rfl Tryz.underlying32 info55 rfl (by decide) (by omega) u3 x3_1 (⟨(rd_T55 l0_0 x4_1).f0, (rd_T55 l0_0 x4_1).f1, (rd_T55 l0_0 x4_1).f2, (rd_T55 l0_0 x4_1).f3, (rd_T55 l0_0 x4_1).f4, (rd_T55 l0_0 x4_1).f5, (rd_T55 l0_0 x4_1).f6, (rd_T55 l0_0 x4_1).f7⟩ : S55) [.int .i64 ((rd_T55 l0_0 x4_1).f0), .int .i64 ((rd_T55 l0_0 x4_1).f1), .int .i64 ((rd_T55 l0_0 x4_1).f2), .int .i64 ((rd_T55 l0_0 x4_1).f3), .int .i64 ((rd_T55 l0_0 x4_1).f4), .slice A214_5 ((rd_T55 l0_0 x4_1).f5).length c214_5, .int .i64 ((rd_T55 l0_0 x4_1).f6), .int .i64 ((rd_T55 l0_0 x4_1).f7)] (fun k_ => (P0_0_ k_ ∨ w.heap.size ≤ k_) ∧ k_ ≠ gb213) (fun k_ => ((fun k_ => (P0_0_ k_ ∨ w.heap.size ≤ k_) ∧ k_ ≠ gb213)) k_ ∧ some k_ ≠ (u3 : Value).ownBlock) rfl rfl ?aP (fun _ hk => hk) ?aF ?aO ?aB ?aS ?aL ?_; (case aP => exact (k55_mkF _ _ (⟨(rd_T55 l0_0 x4_1).f0, (rd_T55 l0_0 x4_1).f1, (rd_T55 l0_0 x4_1).f2, (rd_T55 l0_0 x4_1).f3, (rd_T55 l0_0 x4_1).f4, (rd_T55 l0_0 x4_1).f5, (rd_T55 l0_0 x4_1).f6, (rd_T55 l0_0 x4_1).f7⟩ : S55) (Kd.V_reads' (Kd.V_mono (ok' := (fun k_ => ((fun k_ => (P0_0_ k_ ∨ w.heap.size ≤ k_) ∧ k_ ≠ gb213)) k_ ∧ some k_ ≠ (u3 : Value).ownBlock)) (HL215_5.out) (fun k_ hk => ⟨⟨hk.1, hk.2.2⟩, hk.2.1⟩))).2.1 (Kd.V_F (Kd.V_mono (ok' := (fun k_ => ((fun k_ => (P0_0_ k_ ∨ w.heap.size ≤ k_) ∧ k_ ≠ gb213)) k_ ∧ some k_ ≠ (u3 : Value).ownBlock)) (HL215_5.out) (fun k_ hk => ⟨⟨hk.1, hk.2.2⟩, hk.2.1⟩))))); (case aB => exact (bl1 GE213)); (case aF => exact (fun k_ hk => ⟨(.inr (Nat.le_trans (below_size (bl1 GE213)) hk)), Kd.freshB (g := gb213) (o := .cells #[.slice (some ad214) l0_0.length c0_0, .bool a0_1, .int .i64 a0_2, .slice A0_3 l0_3.length c0_3] 37 (0, 0)) (bk BK213) k_ hk⟩)); (case aO => exact (kn HO_3.out)); (case aS => exact (below_size (bl1 GE213))); (case aL => have := LMc6.out; omega); intro v217 w8 ho hb hg hat; rw [← Ny216.out] at ho; have n0_ := am (Kd.V_afterv (ok := (fun k_ => (P0_0_ k_ ∨ w.heap.size ≤ k_) ∧ k_ ≠ gb213)) (by (with_reducible repeat (first | apply Kd.V_alloc | apply Kd.V_drewN | apply Kd.V_drew)); exact Kd.V_mono HO_214000.out (fun _ hk => ⟨⟨hk.1, hk.2.2⟩, hk.2.1⟩)) hg hat); have n1_ := am (blk_grown (bk BK213) hg (Kd.N_ne HO_3.out BK213.out (by decide))); have n2_ := am (Kd.V_afterv (ok := (fun k_ => (P0_0_ k_ ∨ w.heap.size ≤ k_) ∧ k_ ≠ gb213)) (by (with_reducible repeat (first | apply Kd.V_alloc | apply Kd.V_drewN | apply Kd.V_drew)); exact Kd.V_mono HL214_5.out (fun _ hk => ⟨⟨hk.1, hk.2.2⟩, hk.2.1⟩)) hg hat); have n3_ := am (Kd.V_afterv (ok := (fun k_ => (P0_0_ k_ ∨ w.heap.size ≤ k_) ∧ k_ ≠ gb213)) (by (with_reducible repeat (first | apply Kd.V_alloc | apply Kd.V_drewN | apply Kd.V_drew)); exact Kd.V_mono HL215_5.out (fun _ hk => ⟨⟨hk.1, hk.2.2⟩, hk.2.1⟩)) hg hat); have n4_ := am (hb); have n5_ := am (ho); clear HO_214000; clear BK213; clear HL214_5; clear HL215_5; clear HB; clear HO_3; have HO_214000 := n0_; have BK213 := n1_; have HL214_5 := n2_; have HL215_5 := n3_; have HB := n4_; have HO218 := n5_; clear n0_ n1_ n2_ n3_ n4_ n5_; clear ho hb hg hat))
       go_roundg k1
       case measure => have := HK1.out; omega
       case rel => exact ⟨(y216), (wrap64 (x4_1 + 1)), bx, H', ⟨by have := HK1.out; omega⟩, ⟨kn HO218.out⟩, ⟨by (with_reducible repeat (first | apply Kd.V_alloc | apply Kd.V_drewN | apply Kd.V_drew)); exact Kd.V_mono HO_214000.out (fun _ hk => ⟨hk.1.1, ⟨hk.2, hk.1.2⟩⟩)⟩, ⟨bk BK213⟩, ⟨bl1 GE213⟩⟩
      ·rw [if_neg c6] at H
       exact absurd H (by simp)
     ·rw [if_neg c5] at H
      have c5b0 : (((rd_T55 l0_0 x4_1).f0) == 2) = false := beq_eq_false_iff_ne.mpr c5
      have c5b1 : (((rd_T55 l0_0 x4_1).f0) != 2) = true := bne_iff_ne.mpr c5
      have H' := am H
      clear H
      obtain ⟨hcz9_0, hcz9_1, hcz9_2, hcz9_3⟩ := cellsK4 BK213.out
      obtain ⟨hfz9_0, hfz9_1, hfz9_2, hfz9_3⟩ := frozK4 BK213.out
      have p214 : 0 ≤ (x4_1 : Int) := oT asm
      have q214 : x4_1 < (l0_0.length : Int) := oT asm
      obtain ⟨ad214, A214_5, c214_5, e214, hx214_0, hx214_1, hx214_2, hx214_3, hx214_4, hx214_5, hx214_6, hx214_7, hl214_5, hi214_5⟩ := at_T55 (Kd.V_reads' HO_214000.out).2.2 x4_1 p214 q214
      cases e214
      obtain ⟨ce214, hce214, hMe214, hcc214⟩ := Kd.V_get HO_214000.out z55 x4_1 p214 (by first | exact q214 | exact oT asm | (have e_ := (Kd.V_reads' HO_214000.out).1; omega))
      obtain ⟨ua214_5, uc214_5, rfl, ul214_5, ge214_5⟩ := k55_openF hMe214
      have hv214_5 := hcc214 5 _ rfl
      rw [add_field _ _ 5 (by omega)] at hv214_5
      replace hv214_5 := Option.some.inj (hv214_5.symm.trans hx214_5)
      injection hv214_5 with hva_ hvn_ hvc_
      rw [hva_] at ge214_5
      rw [hvc_] at ul214_5
      have HL214_5 := am (show Kd.V (Kd.int .i64) 3 _ w.heap.size _ _ ((rd_T55 l0_0 x4_1).f5) from Kd.V_mk ul214_5 ge214_5)
      clear hva_ hvn_ hvc_ ge214_5 ul214_5
      clear hcc214 hce214
      have HR214_5 := am hi214_5
      have HC214_5 := am hl214_5
      clear hi214_5 hl214_5
      replace p214 := eq_true p214
      replace q214 := eq_true q214
      go_wp2
      go_roundg k1
      case measure => have := HK1.out; omega
      case rel => exact ⟨(x3_1), (wrap64 (x4_1 + 1)), bx, H', ⟨by have := HK1.out; omega⟩, ⟨kn HO_3.out⟩, ⟨by (with_reducible repeat (first | apply Kd.V_alloc | apply Kd.V_drewN | apply Kd.V_drew)); exact HO_214000.out⟩, ⟨bk BK213⟩, ⟨bl1 GE213⟩⟩
    ·rw [if_neg c4] at H
     exact absurd H (by simp)
   ·rw [if_neg c3] at H
    have c3b0 : decide (x4_1 < (l0_0.length : Int)) = false := dF c3
    clear c3
    obtain rfl := Option.some.inj H
    obtain ⟨hcz10_0, hcz10_1, hcz10_2, hcz10_3⟩ := cellsK4 BK213.out
    obtain ⟨hfz10_0, hfz10_1, hfz10_2, hfz10_3⟩ := frozK4 BK213.out
    go_wp2
    go_ret
    exact ⟨_, ew, by (with_reducible repeat (first | apply Kd.N_alloc | apply Kd.N_drewN | apply Kd.N_drew)); exact Kd.N_mono HO_3.out (fun _ hk => hk.1), bl1 GE213⟩
def dr26_starts.l0 : Nat → List (S55) → List Int → Int → Option (List Int)
 | 0, _, _, _ => none
 | k + 1, x0, x3, x4 => if x4 < (x0.length : Int) then (if 0 ≤ x4 then (if x3.length < 17592186044416 then (dr26_starts.l0 k x0 (x3 ++ [(rd_T55 x0 x4).f3]) (wrap64 (x4 + 1))) else (none)) else (none)) else (some x3)
def dr26_starts.f (k : Nat) (l0 : List (S55)) : Option (List Int) := dr26_starts.l0 k l0 ([] : List Int) 0
set_option maxHeartbeats 8000000 in
set_option maxRecDepth 100000 in
theorem dr26_starts.calls (k : Nat) (A0 : Option Addr) (c0 : Nat) (l0 : List (S55)) (r : List Int) (w : World) (hr0 : Kd.C k55 w A0 l0.length l0) (hc0 : l0.length ≤ c0) (h : dr26_starts.f k l0 = some r) :
  Calls Tryz.prog 34 #[.slice A0 l0.length c0] w fun e w' => ∃ v0_ : Value, e = .returned (v0_) ∧ Kd.R (Kd.int .i64) 2 w' w.heap.size (fun _ => True) v0_ r ∧ Below w.heap.size w w' := by
 have HR0 := am hr0
 have HC0 := am hc0
 clear hr0 hc0
 have HB := am (Below.refl w.heap.size w)
 have H : (dr26_starts.l0 k l0 ([] : List Int) 0) = some r := h
 clear h
 have H' := am H
 clear H
 go_enter Tryz.func34, Tryz.ntmps34
 go_wp2
 go_loopg [3, 4] k (fun kq v3 v4 w' => ∃ (x3_1 : List Int) (x4_1 : Int), v4 = .int .i64 x4_1 ∧ Aside0 (dr26_starts.l0 kq l0 x3_1 x4_1 = some r) ∧ Aside0 (kq ≤ k) ∧ Aside0 (Kd.R (Kd.int .i64) 2 w' w.heap.size (fun _ => True) v3 x3_1) ∧ Aside0 (Below w.heap.size w w'))
 case atStart => exact ⟨(([] : List Int)), (0), bx, H', ⟨Nat.le_refl _⟩, ⟨by first | exact Kd.R_nil _ _ _ _ _ | exact Kd.N_nil _ _ _ _ _ | exact Kd.V_nil _ _ _ _ _ | exact Kd.Q_nil _ _ _ _ _ | exact Kd.S_nil _ _ _ _ _⟩, ⟨bl0⟩⟩
 case round =>
  clear H'
  obtain ⟨x3_1, x4_1, rfl, HA, HK1, HO_3, HB⟩ := hrel
  cases gk with
  | zero => exact absurd HA.out (by simp [dr26_starts.l0])
  | succ k1 =>
   have H := HA.out
   clear HA
   simp only [dr26_starts.l0] at H
   by_cases c2 : x4_1 < (l0.length : Int)
   ·rw [if_pos c2] at H
    have c2b0 : decide (x4_1 < (l0.length : Int)) = true := dT c2
    clear c2
    by_cases c3 : 0 ≤ x4_1
    ·rw [if_pos c3] at H
     have c3b0 : decide (0 ≤ x4_1) = true := dT c3
     clear c3
     by_cases c4 : x3_1.length < 17592186044416
     ·rw [if_pos c4] at H
      have LMc4 := am c4
      clear c4
      obtain ⟨y222, hy222⟩ : ∃ y_ : List Int, y_ = (x3_1 ++ [(rd_T55 l0 x4_1).f3]) := ⟨_, rfl⟩
      replace H : (dr26_starts.l0 k1 l0 y222 (wrap64 (x4_1 + 1))) = some r := by first | (rw [hy222]; with_reducible exact H) | (have H2_ := (Option.bind_some _ _).symm.trans H; rw [hy222]; with_reducible exact H2_) | (have H2_ := (Option.bind_some _ _).symm.trans H; with_reducible exact H2_) | with_reducible exact H | (rw [hy222]; exact H) | exact H
      have Ny222 := am hy222
      clear hy222
      have H' := am H
      clear H
      have p221 : 0 ≤ (x4_1 : Int) := oT asm
      have q221 : x4_1 < (l0.length : Int) := oT asm
      obtain ⟨ad221, A221_5, c221_5, e221, hx221_0, hx221_1, hx221_2, hx221_3, hx221_4, hx221_5, hx221_6, hx221_7, hl221_5, hi221_5⟩ := at_T55 HR0.out x4_1 p221 q221
      cases e221
      replace hx221_0 := hxk HB hx221_0
      replace hx221_1 := hxk HB hx221_1
      replace hx221_2 := hxk HB hx221_2
      replace hx221_3 := hxk HB hx221_3
      replace hx221_4 := hxk HB hx221_4
      replace hx221_5 := hxk HB hx221_5
      replace hx221_6 := hxk HB hx221_6
      replace hx221_7 := hxk HB hx221_7
      have HR221_5 := am hi221_5
      have HC221_5 := am hl221_5
      clear hi221_5 hl221_5
      replace p221 := eq_true p221
      replace q221 := eq_true q221
      go_wp2_with (first | ((with_reducible refine gate_builtin (b := .append) (xs := #[.tmp 11, .tmp 17]) rfl ?_); at_builtin; refine Kd.R_append (Kd.int .i64) (w0 := w) w.heap.size rfl (.tmp 11) (.tmp 17) 61 2 (.int .i64 0) 8 rfl Tryz.underlying61 info2 rfl (by decide) (by omega) u3 x3_1 ((rd_T55 l0 x4_1).f3) [.int .i64 ((rd_T55 l0 x4_1).f3)] (fun _ => True) (fun _ => False) rfl rfl ?aP (fun _ hk => hk.elim) ?aF ?aO ?aB ?aS ?aL ?_; (case aP => exact rfl); (case aB => exact bl0); (case aF => exact (fun _ _ => trivial)); (case aO => exact (kr HO_3.out)); (case aS => exact (below_size bl0)); (case aL => have := LMc4.out; omega); intro v223 w5 ho hb hg hat; rw [← Ny222.out] at ho; have n0_ := am (hb); have n1_ := am (ho); clear HB; clear HO_3; have HB := n0_; have HO224 := n1_; clear n0_ n1_; clear ho hb hg hat))
      go_roundg k1
      case measure => have := HK1.out; omega
      case rel => exact ⟨(y222), (wrap64 (x4_1 + 1)), bx, H', ⟨by have := HK1.out; omega⟩, ⟨kr HO224.out⟩, ⟨bl0⟩⟩
     ·rw [if_neg c4] at H
      exact absurd H (by simp)
    ·rw [if_neg c3] at H
     exact absurd H (by simp)
   ·rw [if_neg c2] at H
    have c2b0 : decide (x4_1 < (l0.length : Int)) = false := dF c2
    clear c2
    obtain rfl := Option.some.inj H
    go_wp2
    go_ret
    exact ⟨_, ew, kr HO_3.out, bl0⟩
def dr1_Time.f (a0 : Int) : Option (Bool) := if a0 ≥ (-1099511627776) then (some (decide (a0 ≤ 1099511627776))) else (some false)
set_option maxHeartbeats 8000000 in
set_option maxRecDepth 100000 in
theorem dr1_Time.calls (a0 : Int) (r : Bool) (w : World) (h : dr1_Time.f a0 = some r) :
  Calls Tryz.prog 46 #[.int .i64 a0] w fun e w' => e = .returned (.bool r) ∧ Drawn0 w w' := by
 have H : (if a0 ≥ (-1099511627776) then (some (decide (a0 ≤ 1099511627776))) else (some false)) = some r := h
 clear h
 by_cases c2 : a0 ≥ (-1099511627776)
 ·rw [if_pos c2] at H
  have c2b0 : decide ((-1099511627776) ≤ a0) = true := dT c2
  clear c2
  obtain rfl := Option.some.inj H
  go_enter Tryz.func46, Tryz.ntmps46
  go_wp2
  go_ret
  exact ⟨sd, dn⟩
 ·rw [if_neg c2] at H
  have c2b0 : decide ((-1099511627776) ≤ a0) = false := dF c2
  clear c2
  obtain rfl := Option.some.inj H
  go_enter Tryz.func46, Tryz.ntmps46
  go_wp2
  go_ret
  exact ⟨sd, dn⟩
def dr10_times.l0 : Nat → List Int → Int → Option (Bool)
 | 0, _, _ => none
 | k + 1, x0, x3 => if x3 < (x0.length : Int) then (if 0 ≤ x3 then ((dr1_Time.f (rd x0 x3)).bind fun t226 => (if t226 = true then (dr10_times.l0 k x0 (wrap64 (x3 + 1))) else (some false))) else (none)) else (some true)
def dr10_times.f (k : Nat) (l0 : List Int) : Option (Bool) := dr10_times.l0 k l0 0
set_option maxHeartbeats 8000000 in
set_option maxRecDepth 100000 in
theorem dr10_times.calls (k : Nat) (A0 : Option Addr) (c0 : Nat) (l0 : List Int) (r : Bool) (w : World) (hr0 : Kd.C (Kd.int .i64) w A0 l0.length l0) (hc0 : l0.length ≤ c0) (h : dr10_times.f k l0 = some r) :
  Calls Tryz.prog 59 #[.slice A0 l0.length c0] w fun e w' => e = .returned (.bool r) ∧ Drawn0 w w' := by
 have HR0 := am hr0
 have HC0 := am hc0
 clear hr0 hc0
 have H : (dr10_times.l0 k l0 0) = some r := h
 clear h
 have H' := am H
 clear H
 go_enter Tryz.func59, Tryz.ntmps59
 go_wp2
 go_loopg [3] k (fun kq v3 w' => ∃ (x3_1 : Int), v3 = .int .i64 x3_1 ∧ Aside0 (dr10_times.l0 kq l0 x3_1 = some r) ∧ Aside0 (kq ≤ k) ∧ Drawn0 w w')
 case atStart => exact ⟨(0), bx, H', ⟨Nat.le_refl _⟩, dn⟩
 case round =>
  clear H'
  obtain ⟨x3_1, rfl, HA, HK1, ⟨m1, rfl⟩⟩ := hrel
  cases gk with
  | zero => exact absurd HA.out (by simp [dr10_times.l0])
  | succ k1 =>
   have H := HA.out
   clear HA
   simp only [dr10_times.l0] at H
   by_cases c2 : x3_1 < (l0.length : Int)
   ·rw [if_pos c2] at H
    have c2b0 : decide (x3_1 < (l0.length : Int)) = true := dT c2
    clear c2
    by_cases c3 : 0 ≤ x3_1
    ·rw [if_pos c3] at H
     have c3b0 : decide (0 ≤ x3_1) = true := dT c3
     clear c3
     replace H := bS H
     obtain ⟨t226, A40, H⟩ := H
     replace H : (if t226 = true then (dr10_times.l0 k1 l0 (wrap64 (x3_1 + 1))) else (some false)) = some r := H
     have A4 := am A40
     clear A40
     by_cases c5 : t226 = true
     ·subst c5
      have H1 : (dr10_times.l0 k1 l0 (wrap64 (x3_1 + 1))) = some r := by rw [if_pos rfl] at H; exact H
      clear H
      have H := H1
      clear H1
      have H' := am H
      clear H
      have p225 : 0 ≤ (x3_1 : Int) := oT asm
      have q225 : x3_1 < (l0.length : Int) := oT asm
      obtain ⟨ad225, e225, hx225_0⟩ := Kd.at_int HR0.out x3_1 p225 q225
      cases e225
      replace p225 := eq_true p225
      replace q225 := eq_true q225
      go_wp2_with (first | ((with_reducible refine gate_callee (f := 46) rfl ?_); refine goesL_ (some 14) rfl rfl Tryz.func46 (by kernel_rfl) rfl #[.int .i64 (rd l0 x3_1)] rfl lm ?_; (with_reducible refine (dr1_Time.calls (rd l0 x3_1) true _ A4.out).mono ?_); rintro e w' ⟨rfl, ⟨nd, rfl⟩⟩; refine ⟨_, rfl, ?_⟩))
      go_roundg k1
      case measure => have := HK1.out; omega
      case rel => exact ⟨(wrap64 (x3_1 + 1)), bx, H', ⟨by have := HK1.out; omega⟩, dn⟩
     ·replace c5 := Bool.eq_false_iff.mpr c5
      subst c5
      have H1 : (some false) = some r := by rw [if_neg (show ¬ (false = true) by decide)] at H; exact H
      clear H
      have H := H1
      clear H1
      obtain rfl := Option.some.inj H
      have p225 : 0 ≤ (x3_1 : Int) := oT asm
      have q225 : x3_1 < (l0.length : Int) := oT asm
      obtain ⟨ad225, e225, hx225_0⟩ := Kd.at_int HR0.out x3_1 p225 q225
      cases e225
      replace p225 := eq_true p225
      replace q225 := eq_true q225
      go_wp2_with (first | ((with_reducible refine gate_callee (f := 46) rfl ?_); refine goesL_ (some 14) rfl rfl Tryz.func46 (by kernel_rfl) rfl #[.int .i64 (rd l0 x3_1)] rfl lm ?_; (with_reducible refine (dr1_Time.calls (rd l0 x3_1) false _ A4.out).mono ?_); rintro e w' ⟨rfl, ⟨nd, rfl⟩⟩; refine ⟨_, rfl, ?_⟩))
      go_ret
      exact ⟨sd, dn⟩
    ·rw [if_neg c3] at H
     exact absurd H (by simp)
   ·rw [if_neg c2] at H
    have c2b0 : decide (x3_1 < (l0.length : Int)) = false := dF c2
    clear c2
    obtain rfl := Option.some.inj H
    go_wp2
    go_ret
    exact ⟨sd, dn⟩
end Go.Proofs.YtbefbhghmommhaaGreatDoor.MWo
