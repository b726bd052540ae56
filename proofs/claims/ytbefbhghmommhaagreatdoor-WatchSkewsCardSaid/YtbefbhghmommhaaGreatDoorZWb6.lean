/- Texts of this claim, laid together by a program (wip/g/merge3.py): HSg, HEq, HAg, HIf, Evl, HSy, HAw, MWox58, MWox61, MWox62, MWox63, MWox64, MWox59, MWox84, MWox85, MWox50, MWox51, MWox46, MWox47. -/
import Derived.Test.YtbefbhghmommhaaGreatDoorZWb3
import Derived.Lib.Strings
import Derived.Lib.Slices
import Derived.Lib.Walk
import Derived.Test.YtbefbhghmommhaaGreatDoorZWb5
import Derived.Test.YtbefbhghmommhaaGreatDoorZWb4
set_option linter.unusedVariables false
set_option linter.unusedSimpArgs false
set_option maxRecDepth 100000
namespace Go.Proofs.YtbefbhghmommhaaGreatDoor.MWo
open Go.RowKit Go.Proofs.YtbefbhghmommhaaGreatDoorW.PrintWords Go.Proofs.YtbefbhghmommhaaGreatDoorW.PrintLast Go.Proofs.YtbefbhghmommhaaGreatDoorW.PrintMore
def timeB (x : Int) : Bool := decide (-1099511627776 ≤ x) && decide (x ≤ 1099511627776)
theorem time_walk (x : Int) (w : World) : Calls Tryz.prog 58 #[.int .i64 x] w fun e w' => e = .returned (.bool (timeB x)) ∧ w' = w := by
 go_enter Tryz.func58, Tryz.ntmps58
 by_cases h : -1099511627776 ≤ x
 ·by_cases h2 : x ≤ 1099511627776
  ·go_wp2
   go_ret
   exact ⟨by simp [timeB, h, h2], rfl⟩
  ·go_wp2
   go_ret
   exact ⟨by simp [timeB, h, h2], rfl⟩
 ·go_wp2
  go_ret
  exact ⟨by simp [timeB]; omega, rfl⟩
theorem notime_walk (x : Int) (w : World) : Calls Tryz.prog 57 #[.int .i64 x] w fun e w' => e = .returned (.bool (!timeB x)) ∧ w' = w := by
 have hT := time_walk x w
 generalize timeB x = b at hT ⊢
 go_enter Tryz.func57, Tryz.ntmps57
 go_wp2_with fail
 refine hT.mono ?_
 rintro e w1 ⟨rfl, rfl⟩
 go_wp2_with fail
 go_ret
 exact ⟨rfl, rfl⟩
theorem enter_sp (args : Array Value) (w : World) : (callFunc 57 args).run Tryz.prog w = .ok (.enter 57 args) w := entersT Tryz.func57 (by decide +kernel) rfl args w
def fstI {α : Type} (p : α → Bool) (l : List α) : Int := match l.findIdx? p with | some i => (i : Int) | none => -1
theorem fstI_hit {α : Type} {p : α → Bool} {l : List α} {i : Nat} (hi : i < l.length) (hp : p l[i] = true) (hb : ∀ (j : Nat) (h : j < l.length), j < i → p l[j] = false) : fstI p l = i := by
 have : l.findIdx? p = some i := by
  rw [List.findIdx?_eq_some_iff_getElem]
  exact ⟨hi, hp, fun j hj => by simp [hb j (by omega) hj]⟩
 unfold fstI
 rw [this]
theorem fstI_miss {α : Type} {p : α → Bool} {l : List α} (hb : ∀ (j : Nat) (h : j < l.length), p l[j] = false) : fstI p l = -1 := by
 have : l.findIdx? p = none := by
  rw [List.findIdx?_eq_none_iff]
  intro x hx
  obtain ⟨j, hj, rfl⟩ := List.mem_iff_getElem.1 hx
  exact hb j hj
 unfold fstI
 rw [this]
theorem fstI_any {α : Type} (p : α → Bool) (l : List α) : decide (0 ≤ fstI p l) = l.any p := by
 unfold fstI
 cases h : l.findIdx? p with
 | none =>
  rw [List.findIdx?_eq_none_iff] at h
  simp only [show decide ((0 : Int) ≤ -1) = false by decide]
  symm
  rw [List.any_eq_false]
  intro x hx
  simp [h x hx]
 | some i =>
  rw [List.findIdx?_eq_some_iff_getElem] at h
  obtain ⟨hi, hp, _⟩ := h
  simp only [show decide ((0 : Int) ≤ (i : Int)) = true from decide_eq_true (by omega)]
  symm
  rw [List.any_eq_true]
  exact ⟨_, List.getElem_mem hi, hp⟩
theorem at_l {w : World} {A : Option Addr} {l : List Int} (h : Kd.C (Kd.int .i64) w A l.length l) {i : Nat} (hi : i < l.length) : ∃ ad, A = some ad ∧ w.cell? (ad.add i) = some (.int .i64 l[i]) := by
 obtain ⟨ad, e, hx⟩ := Kd.at_int h (i : Int) (by omega) (by omega)
 exact ⟨ad, e, by simpa [rd, hi] using hx⟩
set_option maxHeartbeats 1000000 in
theorem index64 (A0 : Option Addr) (c0 : Nat) (l : List Int) (w : World) (hr : Kd.C (Kd.int .i64) w A0 l.length l) (hl : l.length ≤ 1000000) :
  Calls Tryz.prog 73 #[.slice A0 l.length c0, .func (.func 57) #[] #[]] w fun e w' => e = .returned (.int .i64 (fstI (fun x => !timeB x) l)) ∧ w' = w := by
 have HR := am hr
 have eg := enter_sp
 clear hr
 go_enter Tryz.func73, Tryz.ntmps73
 go_wp2_with fail
 go_loopg [5, 8] (l.length + 1) (fun kq _ v8 w' => ∃ i : Nat, v8 = .int .i64 i ∧ Aside0 (kq + i = l.length + 1) ∧ Aside0 (w' = w) ∧ Aside0 (∀ (j : Nat) (h : j < l.length), j < i → (!timeB l[j]) = false))
 case atStart => exact ⟨0, rfl, ⟨by omega⟩, ⟨rfl⟩, ⟨fun j _ hj => absurd hj (by omega)⟩⟩
 case round =>
  obtain ⟨i, rfl, HK, HB, HN⟩ := hrel
  obtain rfl := HB.out
  by_cases hi : i < l.length
  ·obtain ⟨ad, e, x0⟩ := at_l HR.out hi
   cases e
   have hcall := notime_walk l[i] wr
   obtain ⟨x, hx⟩ : ∃ x, l[i] = x := ⟨_, rfl⟩
   rw [hx] at x0 hcall
   have HX := am hx
   clear hx
   have hlt : decide ((i : Int) < (l.length : Int)) = true := decide_eq_true (by omega)
   have p0 := eq_true (show (0 : Int) ≤ (i : Int) by omega)
   have p1 := eq_true (show (i : Int) < (l.length : Int) by omega)
   have hw1 : wrap64 ((i : Int) + 1) = ((i + 1 : Nat) : Int) := by unfold wrap64; omega
   cases gk with
   | zero => exact absurd HK.out (by omega)
   | succ k1 =>
   cases hq : (!timeB x) with
   | true =>
    rw [hq] at hcall
    go_wp2_with fail
    refine hcall.mono ?_
    rintro e w' ⟨rfl, rfl⟩
    go_wp2_with fail
    go_ret
    refine ⟨?_, rfl⟩
    rw [fstI_hit (i := i) hi (by rw [HX.out]; exact hq) HN.out]
    rfl
   | false =>
    rw [hq] at hcall
    go_wp2_with fail
    refine hcall.mono ?_
    rintro e w' ⟨rfl, rfl⟩
    go_wp2_with fail
    go_roundg k1
    case measure => have := HK.out; omega
    case rel =>
     refine ⟨i + 1, rfl, ⟨by have := HK.out; omega⟩, ⟨rfl⟩, ⟨fun j h hj => ?_⟩⟩
     by_cases e : j = i
     ·subst e; rw [HX.out]; exact hq
     ·exact HN.out j h (by omega)
  ·have hlt : decide ((i : Int) < (l.length : Int)) = false := decide_eq_false (by omega)
   go_wp2_with fail
   go_ret
   refine ⟨?_, rfl⟩
   rw [fstI_miss (fun j h => HN.out j h (by omega))]
   rfl
theorem contains64 (A0 : Option Addr) (c0 : Nat) (l : List Int) (w : World) (hr : Kd.C (Kd.int .i64) w A0 l.length l) (hl : l.length ≤ 1000000) :
  Calls Tryz.prog 56 #[.slice A0 l.length c0, .func (.func 57) #[] #[]] w fun e w' => e = .returned (.bool (l.any fun x => !timeB x)) ∧ w' = w := by
 have hi := index64 A0 c0 l w hr hl
 rw [← fstI_any]
 generalize fstI (fun x => !timeB x) l = r at hi ⊢
 clear hr hl
 go_enter Tryz.func56, Tryz.ntmps56
 go_wp2_with fail
 refine hi.mono ?_
 rintro e w1 ⟨rfl, rfl⟩
 go_wp2_with fail
 go_ret
 exact ⟨rfl, rfl⟩
theorem firstM {l : List Int} {n : Nat} (hn : 0 < n) (hnn : l.length = n) : Value.int .i64 (l[0]'(by omega)) = Value.int .i64 (Lib.maxOf (l.take 1)) := by
 have hl : 0 < l.length := by omega
 rw [Lib.maxOf_one]
 simp [hl]
set_option maxHeartbeats 2000000 in
theorem max64 (A0 : Option Addr) (c0 : Nat) (l : List Int) (w : World) (hr : Kd.C (Kd.int .i64) w A0 l.length l) (hn : 0 < l.length) (hbig : l.length ≤ 1000000) :
  Calls Tryz.prog 42 #[.slice A0 l.length c0] w fun e w' => e = .returned (.int .i64 (Lib.maxOf l)) ∧ w' = w := by
 obtain ⟨ad, rfl, hx⟩ := Kd.at_int hr 0 (by omega) (by omega)
 have hc : Aside0 (∀ j, j < l.length → w.cell? (ad.add j) = some (.int .i64 (l.getD j 0))) := ⟨fun j hj => by
  obtain ⟨ad', e, h⟩ := Kd.at_int hr (j : Int) (by omega) (by omega)
  cases e
  simpa [rd] using h⟩
 have h0 : w.cell? ad = some (.int .i64 (l.getD 0 0)) := by have h := hc.out 0 hn; simpa [Addr.add] using h
 clear hr hx
 have hlast : Lib.maxOf l = Lib.maxOf (l.take l.length) := by simp
 rw [hlast]
 clear hlast
 obtain ⟨n, hnn⟩ : ∃ n, l.length = n := ⟨_, rfl⟩
 rw [hnn] at hn hbig hc ⊢
 go_enter Tryz.func42, Tryz.ntmps42
 go_wp2
 go_loop [3, 4] (fun m i => ∃ k : Nat, 0 < k ∧ k ≤ n ∧ i = .int .i64 k ∧ m = .int .i64 (Lib.maxOf (l.take k))) (fun _ i => match i with | .int _ q => n - q.toNat | _ => 0)
 case atStart => exact ⟨1, Nat.one_pos, hn, rfl, firstM hn hnn⟩
 case round =>
  obtain ⟨k, hk0, hk, rfl, rfl⟩ := hrel
  have hcell : k < n → w.cell? (ad.add k) = some (.int .i64 (l.getD k 0)) := fun h => hc.out k h
  go_wp2
  ·have hlt : k < n := by assumption
   have hkl : k < l.length := by omega
   refine ⟨⟨k + 1, Nat.succ_pos k, by omega, by congr 1, ?_⟩, ?_⟩
   ·rw [Lib.maxOf_step l k hk0 (by omega)]
    simp [hkl]
   ·show n - ((k : Int) + 1).toNat < n - ((k : Int)).toNat
    omega
  ·have hge : ¬ k < n := by assumption
   have : k = n := by omega
   subst this
   go_ret
   exact ⟨rfl, rfl⟩
theorem firstN {l : List Int} {n : Nat} (hn : 0 < n) (hnn : l.length = n) : Value.int .i64 (l[0]'(by omega)) = Value.int .i64 (Lib.minOf (l.take 1)) := by
 have hl : 0 < l.length := by omega
 rw [Lib.minOf_one]
 simp [hl]
set_option maxHeartbeats 2000000 in
theorem min64 (A0 : Option Addr) (c0 : Nat) (l : List Int) (w : World) (hr : Kd.C (Kd.int .i64) w A0 l.length l) (hn : 0 < l.length) (hbig : l.length ≤ 1000000) :
  Calls Tryz.prog 43 #[.slice A0 l.length c0] w fun e w' => e = .returned (.int .i64 (Lib.minOf l)) ∧ w' = w := by
 obtain ⟨ad, rfl, hx⟩ := Kd.at_int hr 0 (by omega) (by omega)
 have hc : Aside0 (∀ j, j < l.length → w.cell? (ad.add j) = some (.int .i64 (l.getD j 0))) := ⟨fun j hj => by
  obtain ⟨ad', e, h⟩ := Kd.at_int hr (j : Int) (by omega) (by omega)
  cases e
  simpa [rd] using h⟩
 have h0 : w.cell? ad = some (.int .i64 (l.getD 0 0)) := by have h := hc.out 0 hn; simpa [Addr.add] using h
 clear hr hx
 have hlast : Lib.minOf l = Lib.minOf (l.take l.length) := by simp
 rw [hlast]
 clear hlast
 obtain ⟨n, hnn⟩ : ∃ n, l.length = n := ⟨_, rfl⟩
 rw [hnn] at hn hbig hc ⊢
 go_enter Tryz.func43, Tryz.ntmps43
 go_wp2
 go_loop [3, 4] (fun m i => ∃ k : Nat, 0 < k ∧ k ≤ n ∧ i = .int .i64 k ∧ m = .int .i64 (Lib.minOf (l.take k))) (fun _ i => match i with | .int _ q => n - q.toNat | _ => 0)
 case atStart => exact ⟨1, Nat.one_pos, hn, rfl, firstN hn hnn⟩
 case round =>
  obtain ⟨k, hk0, hk, rfl, rfl⟩ := hrel
  have hcell : k < n → w.cell? (ad.add k) = some (.int .i64 (l.getD k 0)) := fun h => hc.out k h
  go_wp2
  ·have hlt : k < n := by assumption
   have hkl : k < l.length := by omega
   refine ⟨⟨k + 1, Nat.succ_pos k, by omega, by congr 1, ?_⟩, ?_⟩
   ·rw [Lib.minOf_step l k hk0 (by omega)]
    simp [hkl]
   ·show n - ((k : Int) + 1).toNat < n - ((k : Int)).toNat
    omega
  ·have hge : ¬ k < n := by assumption
   have : k = n := by omega
   subst this
   go_ret
   exact ⟨rfl, rfl⟩
def sprd (l : List Int) : Int × Bool := if l = [] ∨ (l.any fun x => !timeB x) = true then (0, false) else (wrap64 (Lib.maxOf l - Lib.minOf l), true)
theorem gspread_walk (A0 : Option Addr) (c0 : Nat) (l : List Int) (w : World) (hr : Kd.C (Kd.int .i64) w A0 l.length l) (hl : l.length ≤ 1000000) :
  Calls Tryz.prog 32 #[.slice A0 l.length c0] w fun e w' => e = .returned (.tuple #[.int .i64 (sprd l).1, .bool (sprd l).2]) ∧ w' = w := by
 by_cases h0 : l = []
 ·subst h0
  go_enter Tryz.func32, Tryz.ntmps32
  go_wp2
  go_ret2
  exact ⟨rfl, rfl⟩
 ·have hn : 0 < l.length := List.length_pos_iff.2 h0
  have hc := contains64 A0 c0 l w hr hl
  have hM := max64 A0 c0 l w hr hn hl
  have hN := min64 A0 c0 l w hr hn hl
  have he : ((l.length : Int) == 0) = false := by simp; omega
  unfold sprd
  cases hb : (l.any fun x => !timeB x) with
  | true =>
   rw [hb] at hc
   rw [if_pos (Or.inr rfl)]
   clear hM hN hr
   go_enter Tryz.func32, Tryz.ntmps32
   go_wp2_with fail
   refine hc.mono ?_
   rintro e w1 ⟨rfl, rfl⟩
   go_wp2_with fail
   go_ret2
   exact ⟨rfl, rfl⟩
  | false =>
   rw [hb] at hc
   rw [if_neg (by rintro (h | h); exact h0 h; exact absurd h (by decide))]
   generalize Lib.maxOf l = M at hM ⊢
   generalize Lib.minOf l = N at hN ⊢
   clear hr
   go_enter Tryz.func32, Tryz.ntmps32
   go_wp2_with fail
   refine hc.mono ?_
   rintro e w1 ⟨rfl, rfl⟩
   go_wp2_with fail
   refine hM.mono ?_
   rintro e w1 ⟨rfl, rfl⟩
   go_wp2_with fail
   refine hN.mono ?_
   rintro e w1 ⟨rfl, rfl⟩
   go_wp2_with fail
   go_ret2
   exact ⟨rfl, rfl⟩
end Go.Proofs.YtbefbhghmommhaaGreatDoor.MWo
set_option linter.unusedVariables false
set_option linter.unusedSimpArgs false
set_option maxRecDepth 100000
set_option linter.unusedVariables false
set_option linter.unusedSimpArgs false
set_option maxRecDepth 100000
namespace Go.Proofs.YtbefbhghmommhaaGreatDoor.MWo
open Go.RowKit Go.Proofs.YtbefbhghmommhaaGreatDoorW.PrintWords Go.Proofs.YtbefbhghmommhaaGreatDoorW.PrintLast Go.Proofs.YtbefbhghmommhaaGreatDoorW.PrintMore
structure Fst (w : World) (ad : Addr) (y : S55) (B5 : Option Addr) (d5 : Nat) : Prop where
 c4 : w.cell? ⟨ad.block, ad.off + 4, none⟩ = some (.int .i64 y.f4)
 c6 : w.cell? ⟨ad.block, ad.off + 6, none⟩ = some (.int .i64 y.f6)
 c5 : w.cell? ⟨ad.block, ad.off + 5, none⟩ = some (.slice B5 y.f5.length d5)
theorem c_lt {w : World} {a : Addr} {v : Value} (h : w.cell? a = some v) : a.block < w.heap.size := World.block_lt_of_cell? _ _ h
theorem Fst.below {w w1 : World} {ad : Addr} {y : S55} {B5 : Option Addr} {d5 : Nat} (h : Fst w ad y B5 d5) (k : Below w.heap.size w w1) : Fst w1 ad y B5 d5 :=
 ⟨(k.cell (c_lt h.c4)).trans h.c4, (k.cell (c_lt h.c6)).trans h.c6, (k.cell (c_lt h.c5)).trans h.c5⟩
end Go.Proofs.YtbefbhghmommhaaGreatDoor.MWo
set_option linter.unusedVariables false
set_option linter.unusedSimpArgs false
set_option maxRecDepth 100000
namespace Go.Proofs.YtbefbhghmommhaaGreatDoor.MWo
open Go.RowKit Go.Proofs.YtbefbhghmommhaaGreatDoorW.PrintWords Go.Proofs.YtbefbhghmommhaaGreatDoorW.PrintLast Go.Proofs.YtbefbhghmommhaaGreatDoorW.PrintMore
theorem rd_n {l : List S55} {i : Int} (h0 : 0 ≤ i) (h1 : i < l.length) : rd_T55 l i = l[i.toNat]'(by omega) := by
 have : i.toNat < l.length := by omega
 simp [rd_T55, List.getD_eq_getElem?_getD, this]
end Go.Proofs.YtbefbhghmommhaaGreatDoor.MWo
namespace Go.Proofs.YtbefbhghmommhaaGreatDoor.Evl
open Go.Proofs.YtbefbhghmommhaaGreatDoorW.PrintWords
def Evl {α : Type} (g : Nat → Option α) (r : α) : Prop := ∃ K, ∀ k, K ≤ k → g k = some r
theorem Evl.now {α : Type} {g : Nat → Option α} {r : α} (h : ∀ k, g k = some r) : Evl g r := ⟨0, fun k _ => h k⟩
theorem Evl.step {α : Type} {g h : Nat → Option α} {r : α} (e : ∀ k, g (k + 1) = h k) (hh : Evl h r) : Evl g r := by
  obtain ⟨K, hK⟩ := hh
  exact ⟨K + 1, fun k hk => by obtain ⟨m, rfl⟩ : ∃ m, k = m + 1 := ⟨k - 1, by omega⟩; rw [e]; exact hK m (by omega)⟩
theorem Evl.succ {α : Type} {g : Nat → Option α} {r : α} (hh : Evl (fun k => g (k + 1)) r) : Evl g r := Evl.step (fun _ => rfl) hh
theorem Evl.congr {α : Type} {g h : Nat → Option α} {r : α} (e : ∀ k, g k = h k) (hh : Evl h r) : Evl g r := by
  have : g = h := funext e
  rw [this]; exact hh
theorem Evl.bind {α β : Type} {f : Nat → Option α} {g : Nat → α → Option β} {a : α} {r : β} (hf : Evl f a) (hg : Evl (fun k => g k a) r) : Evl (fun k => (f k).bind (g k)) r := by
  obtain ⟨K, hK⟩ := hf
  obtain ⟨M, hM⟩ := hg
  exact ⟨max K M, fun k hk => by simp only [hK k (by omega), Option.bind_some]; exact hM k (by omega)⟩
theorem Evl.some_ {α : Type} {g : Nat → Option α} {r : α} (h : Evl g r) : ∃ k, g k = some r := by
  obtain ⟨K, hK⟩ := h
  exact ⟨K, hK K (Nat.le_refl _)⟩
theorem Evl.mono {α : Type} {g : Nat → Option α} {r : α} (h : ∀ k, LeO (g k) (g (k + 1))) {n : Nat} (hn : g n = some r) : Evl g r :=
  ⟨n, fun _ hk => at_rounds h hk hn⟩
theorem Evl.and {α β : Type} {f : Nat → Option α} {g : Nat → Option β} {a : α} {b : β} (hf : Evl f a) (hg : Evl g b) : ∃ K, ∀ k, K ≤ k → f k = some a ∧ g k = some b := by
  obtain ⟨K, hK⟩ := hf
  obtain ⟨M, hM⟩ := hg
  exact ⟨max K M, fun k hk => ⟨hK k (by omega), hM k (by omega)⟩⟩
end Go.Proofs.YtbefbhghmommhaaGreatDoor.Evl
set_option linter.unusedVariables false
set_option linter.unusedSimpArgs false
set_option maxRecDepth 100000
namespace Go.Proofs.YtbefbhghmommhaaGreatDoor.MWo
open Go.RowKit Go.Proofs.YtbefbhghmommhaaGreatDoorW.PrintWords Go.Proofs.YtbefbhghmommhaaGreatDoorW.PrintLast Go.Proofs.YtbefbhghmommhaaGreatDoorW.PrintMore Go.Proofs.YtbefbhghmommhaaGreatDoor.Evl
def syn (l : List S55) : List S55 := l.filter fun x => decide (x.f0 = 2)
theorem syn_len (l : List S55) : (syn l).length ≤ l.length := List.length_filter_le _ _
theorem w64n {i : Nat} (h : i < 2000000) : wrap64 ((i : Int) + 1) = ((i + 1 : Nat) : Int) := by unfold wrap64; omega
theorem synced_loop {l : List S55} (hl : l.length ≤ 1000000) : ∀ (d i : Nat) (o : List S55), i + d = l.length → o.length ≤ i → Evl (fun k => watch_synced.l0 k o l (l.length : Int) (i : Int)) (o ++ syn (l.drop i))
 | 0, i, o, h, _ => by
  refine Evl.succ ?_
  simp only [watch_synced.l0]
  simp only [if_neg (show ¬ ((i : Int) < (l.length : Int)) by omega), List.drop_eq_nil_iff.2 (show l.length ≤ i by omega)]
  exact Evl.now fun _ => by simp [syn]
 | d + 1, i, o, h, ho => by
  have hi : i < l.length := by omega
  refine Evl.succ ?_
  simp only [watch_synced.l0]
  simp only [if_pos (show (i : Int) < (l.length : Int) by omega), if_pos (show (0 : Int) ≤ (i : Int) by omega), w64n (show i < 2000000 by omega), if_pos (show o.length < 1759218604441 by omega)]
  rw [List.drop_eq_getElem_cons hi]
  have hr : rd_T55 l (i : Int) = l[i] := by rw [rd_n (by omega) (by omega)]; simp
  simp only [hr]
  by_cases e : (l[i]).f0 = 2
  ·simp only [if_pos e]
   have ih := synced_loop hl d (i + 1) (o ++ [l[i]]) (by omega) (by simp; omega)
   have e2 : syn (l[i] :: l.drop (i + 1)) = l[i] :: syn (l.drop (i + 1)) := by unfold syn; rw [List.filter_cons, if_pos (by simp [e])]
   rw [e2]
   rw [List.append_assoc] at ih
   exact ih
  ·simp only [if_neg e]
   have ih := synced_loop hl d (i + 1) o (by omega) (by omega)
   have e2 : syn (l[i] :: l.drop (i + 1)) = syn (l.drop (i + 1)) := by unfold syn; rw [List.filter_cons, if_neg (by simp [e])]
   rw [e2]
   exact ih
theorem synced_evl {l : List S55} (hl : l.length ≤ 1000000) (a1 : Bool) (a2 : Int) (l3 : List Int) : Evl (fun k => watch_synced.f k l a1 a2 l3) (syn l) := by
 have := synced_loop hl l.length 0 [] (by omega) (by simp)
 exact this
theorem starts_loop {l : List S55} (hl : l.length ≤ 1000000) : ∀ (d i : Nat) (o : List Int), i + d = l.length → o.length ≤ i → Evl (fun k => watch_starts.l0 k o l (l.length : Int) (i : Int)) (o ++ (l.drop i).map (·.f3))
 | 0, i, o, h, _ => by
  refine Evl.succ ?_
  simp only [watch_starts.l0]
  simp only [if_neg (show ¬ ((i : Int) < (l.length : Int)) by omega), List.drop_eq_nil_iff.2 (show l.length ≤ i by omega)]
  exact Evl.now fun _ => by simp
 | d + 1, i, o, h, ho => by
  have hi : i < l.length := by omega
  refine Evl.succ ?_
  simp only [watch_starts.l0]
  simp only [if_pos (show (i : Int) < (l.length : Int) by omega), if_pos (show (0 : Int) ≤ (i : Int) by omega), w64n (show i < 2000000 by omega), if_pos (show o.length < 17592186044416 by omega)]
  rw [List.drop_eq_getElem_cons hi]
  have hr : rd_T55 l (i : Int) = l[i] := by rw [rd_n (by omega) (by omega)]; simp
  simp only [hr]
  have ih := starts_loop hl d (i + 1) (o ++ [(l[i]).f3]) (by omega) (by simp; omega)
  rw [List.append_assoc] at ih
  exact ih
theorem starts_evl {l : List S55} (hl : l.length ≤ 1000000) (a1 : Bool) (a2 : Int) (l3 : List Int) : Evl (fun k => watch_starts.f k l a1 a2 l3) ((syn l).map (·.f3)) := by
 have h1 := synced_evl hl a1 a2 l3
 have h2 := starts_loop (l := syn l) (Nat.le_trans (syn_len l) hl) (syn l).length 0 [] (by omega) (by simp)
 exact Evl.bind h1 (by simpa using h2)
end Go.Proofs.YtbefbhghmommhaaGreatDoor.MWo
set_option linter.unusedVariables false
set_option linter.unusedSimpArgs false
set_option maxRecDepth 100000


namespace Go.Proofs.YtbefbhghmommhaaGreatDoor.MWo
open Go.RowKit Go.Proofs.YtbefbhghmommhaaGreatDoorW.PrintWords Go.Proofs.YtbefbhghmommhaaGreatDoorW.PrintLast Go.Proofs.YtbefbhghmommhaaGreatDoorW.PrintMore
attribute [local go_sem] mp_u32s mp_u32m mp_u8s mp_u8m max2_int min2_int max_two min_two max_three min_three max_four min_four
set_option linter.unusedVariables false
set_option linter.unusedSimpArgs false
def dr1_Time.f (a0 : Int) : Option (Bool) := if a0 ≥ (-1099511627776) then (some (decide (a0 ≤ 1099511627776))) else (some false)
set_option maxHeartbeats 8000000 in
set_option maxRecDepth 100000 in
theorem dr1_Time.calls (a0 : Int) (r : Bool) (w : World) (h : dr1_Time.f a0 = some r) :
  Calls Tryz.prog 46 #[.int .i64 a0] w fun e w' => e = .returned (.bool r) ∧ Drawn0 w w' := by
 have H : (if a0 ≥ (-1099511627776) then (some (decide (a0 ≤ 1099511627776))) else (some false)) = some r := h
 clear h
 by_cases c2 : a0 ≥ (-1099511627776)
 ·rw [if_pos c2] at H
  have c2b0 : decide ((-1099511627776) ≤ a0) = true := decide_eq_true c2
  clear c2
  obtain rfl := Option.some.inj H
  go_enter Tryz.func46, Tryz.ntmps46
  go_wp2
  go_ret
  exact ⟨by first | rfl | (simp; done) | (simp [*]; done), by repeat (first | exact Drawn0.refl _ | apply Drawn0.step)⟩
 ·rw [if_neg c2] at H
  have c2b0 : decide ((-1099511627776) ≤ a0) = false := decide_eq_false c2
  clear c2
  obtain rfl := Option.some.inj H
  go_enter Tryz.func46, Tryz.ntmps46
  go_wp2
  go_ret
  exact ⟨by first | rfl | (simp; done) | (simp [*]; done), by repeat (first | exact Drawn0.refl _ | apply Drawn0.step)⟩
end Go.Proofs.YtbefbhghmommhaaGreatDoor.MWo





namespace Go.Proofs.YtbefbhghmommhaaGreatDoor.MWo
open Go.RowKit Go.Proofs.YtbefbhghmommhaaGreatDoorW.PrintWords Go.Proofs.YtbefbhghmommhaaGreatDoorW.PrintLast Go.Proofs.YtbefbhghmommhaaGreatDoorW.PrintMore
attribute [local go_sem] mp_u32s mp_u32m mp_u8s mp_u8m max2_int min2_int max_two min_two max_three min_three max_four min_four
set_option linter.unusedVariables false
set_option linter.unusedSimpArgs false
def gauge_Spread.f (l0 : List Int) : Option (Int × Bool) := if l0.length ≤ 1000000 then some ((sprd l0).1, (sprd l0).2) else none
theorem gauge_Spread.calls (A0 : Option Addr) (c0 : Nat) (l0 : List Int) (r1 : Int) (r2 : Bool) (w : World) (hr0 : Kd.C (Kd.int .i64) w A0 l0.length l0) (hc0 : l0.length ≤ c0) (h : gauge_Spread.f l0 = some (r1, r2)) :
  Calls Tryz.prog 32 #[.slice A0 l0.length c0] w fun e w' => e = .returned (.tuple #[.int .i64 r1, .bool r2]) ∧ Below w.heap.size w w' := by
 unfold gauge_Spread.f at h
 split at h
 ·rename_i hc
  simp only [Option.some.injEq, Prod.mk.injEq] at h
  obtain ⟨rfl, rfl⟩ := h
  refine (gspread_walk A0 c0 l0 w hr0 hc).mono ?_
  rintro e w' ⟨rfl, rfl⟩
  exact ⟨rfl, Below.refl _ _⟩
 ·cases h
def watch_Spread.f (k : Nat) (l0_0 : List (S55)) (a0_1 : Bool) (a0_2 : Int) (l0_3 : List Int) : Option (Int × Bool) := (watch_starts.f k l0_0 a0_1 a0_2 l0_3).bind fun t179 => ((gauge_Spread.f t179).bind fun bt182 => (some (bt182.1, bt182.2)))
set_option maxHeartbeats 8000000 in
set_option maxRecDepth 100000 in
theorem watch_Spread.calls (k : Nat) (A0_0 : Option Addr) (c0_0 : Nat) (l0_0 : List (S55)) (a0_1 : Bool) (a0_2 : Int) (A0_3 : Option Addr) (c0_3 : Nat) (l0_3 : List Int) (r1 : Int) (r2 : Bool) (w : World) (hr0_0 : Kd.C k55 w A0_0 l0_0.length l0_0) (hc0_0 : l0_0.length ≤ c0_0) (hr0_3 : Kd.C (Kd.int .i64) w A0_3 l0_3.length l0_3) (hc0_3 : l0_3.length ≤ c0_3) (h : watch_Spread.f k l0_0 a0_1 a0_2 l0_3 = some (r1, r2)) :
  Calls Tryz.prog 16 #[.agg #[.slice A0_0 l0_0.length c0_0, .bool a0_1, .int .i64 a0_2, .slice A0_3 l0_3.length c0_3]] w fun e w' => e = .returned (.tuple #[.int .i64 r1, .bool r2]) ∧ Below w.heap.size w w' := by
 have hu37 := Tryz.underlying37
 have HR0_0 := am hr0_0
 have HC0_0 := am hc0_0
 clear hr0_0 hc0_0
 have HR0_3 := am hr0_3
 have HC0_3 := am hc0_3
 clear hr0_3 hc0_3
 have HB := am (Below.refl w.heap.size w)
 have H : ((watch_starts.f k l0_0 a0_1 a0_2 l0_3).bind fun t179 => ((gauge_Spread.f t179).bind fun bt182 => (some (bt182.1, bt182.2)))) = some (r1, r2) := h
 clear h
 replace H := Option.bind_eq_some_iff.mp H
 obtain ⟨t179, A20, H⟩ := H
 replace H : ((gauge_Spread.f t179).bind fun bt182 => (some (bt182.1, bt182.2))) = some (r1, r2) := H
 have A2 := am A20
 clear A20
 replace H := Option.bind_eq_some_iff.mp H
 obtain ⟨⟨t182, t183⟩, A30, H⟩ := H
 replace H : (some (t182, t183)) = some (r1, r2) := H
 have A3 := am A30
 clear A30
 simp only [Option.some.injEq, Prod.mk.injEq] at H
 obtain ⟨rfl, rfl⟩ := H
 go_enter Tryz.func16, Tryz.ntmps16
 go_wp2_with (first | ((with_reducible refine gate_dst (N := 1) rfl ?_); refine box_event ?hg (N := 1) ?hd (cs := #[.slice A0_0 l0_0.length c0_0, .bool a0_1, .int .i64 a0_2, .slice A0_3 l0_3.length c0_3]) (t := 37) ?hr ?_; (case hd => rfl); (case hg => rfl); (case hr => first | (go_simp; done) | (go_simp; rfl)); intro gb178 hg w4 hbox hb; have n0_ := am (below_step (by repeat (first | (with_reducible first | exact HB.out | apply below_alloc | apply pw_below_drewN | apply below_drew1) | exact HB.out)) hb); have n1_ := am (hbox); have n2_ := am ((by rw [hg]; exact (below_size (by repeat (first | (with_reducible first | exact HB.out | apply below_alloc | apply pw_below_drewN | apply below_drew1) | exact HB.out))) : w.heap.size ≤ gb178)); have n3_ := am ((by rw [hg]; exact (below_size (by repeat (first | (with_reducible first | exact HB.out | apply below_alloc | apply pw_below_drewN | apply below_drew1) | exact HB.out))) : w.heap.size ≤ gb178)); clear HB; have HB := n0_; have BK178 := n1_; have GW178 := n2_; have GE178 := n3_; clear n0_ n1_ n2_ n3_; clear hb hbox hg; obtain ⟨hcz5_0, hcz5_1, hcz5_2, hcz5_3⟩ := cellsK4 BK178.out; obtain ⟨hfz5_0, hfz5_1, hfz5_2, hfz5_3⟩ := frozK4 BK178.out) | ((with_reducible refine gate_callee (f := 31) rfl ?_); refine goesL_ (some 5) rfl rfl Tryz.func31 (by kernel_rfl) rfl #[.agg #[.slice A0_0 l0_0.length c0_0, .bool a0_1, .int .i64 a0_2, .slice A0_3 l0_3.length c0_3]] rfl (by (try simp only [List.map_toArray, List.map_cons, List.map_nil]); first | done | rfl | (simp only [List.length_drop, List.length_take]; rfl)) ?_; (with_reducible refine (watch_starts.calls k _ _ l0_0 a0_1 a0_2 _ _ l0_3 t179 _ ?side1 ?side2 ?side3 ?side4 A2.out).mono ?_); (case side1 => repeat (first | exact (Kd.C_below HR0_0.out HB.out) | (with_reducible refine Kd.C_alloc ?_ _) | (with_reducible refine Kd.C_drewN ?_ _) | (with_reducible refine Kd.C_drew ?_))); (case side2 => exact HC0_0.out); (case side3 => repeat (first | exact (Kd.C_below HR0_3.out HB.out) | (with_reducible refine Kd.C_alloc ?_ _) | (with_reducible refine Kd.C_drewN ?_ _) | (with_reducible refine Kd.C_drew ?_))); (case side4 => exact HC0_3.out); rintro e w6 ⟨v180, rfl, ho0, hb⟩; refine ⟨_, rfl, ?_⟩; have n0_ := am (Kd.R_lower ho0 (below_size (by repeat (first | (with_reducible first | exact HB.out | apply below_alloc | apply pw_below_drewN | apply below_drew1 | refine below_set ?_ GE178.out) | exact HB.out)))); have n1_ := am (blk_below (g := gb178) (o := .cells #[.slice A0_0 l0_0.length c0_0, .bool a0_1, .int .i64 a0_2, .slice A0_3 l0_3.length c0_3] 37 (0, 0)) (by (with_reducible repeat (first | refine blk_drewN ?_ _ | refine blk_drew ?_ | refine blk_alloc ?_ _)); exact BK178.out) hb); have n2_ := am (below_step (by repeat (first | (with_reducible first | exact HB.out | apply below_alloc | apply pw_below_drewN | apply below_drew1 | refine below_set ?_ GE178.out) | exact HB.out)) hb); clear BK178; clear HB; have HO181 := n0_; have BK178 := n1_; have HB := n2_; clear n0_ n1_ n2_; (try clear hb); (try clear hb2); (try clear hk); (try clear hi); (try clear ho0); obtain ⟨Ao7, co7, eo7⟩ := Kd.R_slice HO181.out; subst eo7) | ((with_reducible refine gate_callee (f := 32) rfl ?_); refine goesL_ (some 6) rfl rfl Tryz.func32 (by kernel_rfl) rfl #[.slice Ao7 t179.length co7] rfl (by (try simp only [List.map_toArray, List.map_cons, List.map_nil]); first | done | rfl | (simp only [List.length_drop, List.length_take]; rfl)) ?_; (with_reducible refine (gauge_Spread.calls _ _ t179 t182 t183 _ ?side1 ?side2 A3.out).mono ?_); (case side1 => repeat (first | exact (Kd.R_reads' HO181.out).2.2 | (with_reducible refine Kd.C_alloc ?_ _) | (with_reducible refine Kd.C_drewN ?_ _) | (with_reducible refine Kd.C_drew ?_))); (case side2 => exact (Kd.R_reads' HO181.out).2.1); rintro e w8 ⟨rfl, hb⟩; refine ⟨_, rfl, ?_⟩; have n0_ := am (Kd.R_below (by (with_reducible repeat (first | apply Kd.R_alloc | apply Kd.R_drewN | apply Kd.R_drew)); exact HO181.out) hb); have n1_ := am (blk_below (g := gb178) (o := .cells #[.slice A0_0 l0_0.length c0_0, .bool a0_1, .int .i64 a0_2, .slice A0_3 l0_3.length c0_3] 37 (0, 0)) (by (with_reducible repeat (first | refine blk_drewN ?_ _ | refine blk_drew ?_ | refine blk_alloc ?_ _)); exact BK178.out) hb); have n2_ := am (below_step (by repeat (first | (with_reducible first | exact HB.out | apply below_alloc | apply pw_below_drewN | apply below_drew1 | refine below_set ?_ GE178.out) | exact HB.out)) hb); clear HO181; clear BK178; clear HB; have HO181 := n0_; have BK178 := n1_; have HB := n2_; clear n0_ n1_ n2_; (try clear hb); (try clear hb2); (try clear hk); (try clear hi)))
 go_ret2
 exact ⟨by first | rfl | (simp [errW_none, errW_some] <;> rfl) | (simp [*, errW_none, errW_some] <;> rfl), by repeat (first | (with_reducible first | exact HB.out | apply below_alloc | apply pw_below_drewN | apply below_drew1 | refine below_set ?_ GE178.out) | exact HB.out)⟩
def slices_Max_int64_int64.f (l0 : List Int) : Option Int := if 0 < l0.length ∧ l0.length ≤ 1000000 then some (Lib.maxOf l0) else none
theorem slices_Max_int64_int64.calls (A0 : Option Addr) (c0 : Nat) (l0 : List Int) (r : Int) (w : World) (hr0 : Kd.C (Kd.int .i64) w A0 l0.length l0) (hc0 : l0.length ≤ c0) (h : slices_Max_int64_int64.f l0 = some r) :
  Calls Tryz.prog 42 #[.slice A0 l0.length c0] w fun e w' => e = .returned (.int .i64 r) ∧ Drawn0 w w' := by
 unfold slices_Max_int64_int64.f at h
 split at h
 ·rename_i hc
  injection h with h
  subst h
  refine (max64 A0 c0 l0 w hr0 hc.1 hc.2).mono ?_
  rintro e w' ⟨rfl, rfl⟩
  exact ⟨rfl, Drawn0.refl _⟩
 ·cases h
def slices_Min_int64_int64.f (l0 : List Int) : Option Int := if 0 < l0.length ∧ l0.length ≤ 1000000 then some (Lib.minOf l0) else none
theorem slices_Min_int64_int64.calls (A0 : Option Addr) (c0 : Nat) (l0 : List Int) (r : Int) (w : World) (hr0 : Kd.C (Kd.int .i64) w A0 l0.length l0) (hc0 : l0.length ≤ c0) (h : slices_Min_int64_int64.f l0 = some r) :
  Calls Tryz.prog 43 #[.slice A0 l0.length c0] w fun e w' => e = .returned (.int .i64 r) ∧ Drawn0 w w' := by
 unfold slices_Min_int64_int64.f at h
 split at h
 ·rename_i hc
  injection h with h
  subst h
  refine (min64 A0 c0 l0 w hr0 hc.1 hc.2).mono ?_
  rintro e w' ⟨rfl, rfl⟩
  exact ⟨rfl, Drawn0.refl _⟩
 ·cases h
end Go.Proofs.YtbefbhghmommhaaGreatDoor.MWo
