/- AgesOrder: hearing more never makes an age greater, and the order in which lists are heard tells nothing. No conditions. -/
import Derived.Test.YthkagdbabkkomaaHOr
import Derived.Test.YthkagdbabkkomaaPuOrd
set_option linter.unusedVariables false
set_option linter.unusedSimpArgs false
namespace Go.Proofs.Ythkagdbabkkomaa.Ord
open Go.RowKit Go.Proofs.Ythkagdbabkkomaa.MAo Go.Proofs.Ythkagdbabkkomaa.HOr Go.Proofs.YthkagdbabkkomaaW.PrintWords Go.Proofs.YthkagdbabkkomaaW.PrintLast Go.Proofs.YthkagdbabkkomaaW.PrintMore Go.Proofs.Ythkagdbabkkomaa.Plain
/-- What AgesOrder answers: true. -/
theorem order_calls (A0 : Option Addr) (c0 : Nat) (own : List Int) (self : Int) (A2 : Option Addr) (c2 : Nat) (a : List (List Int)) (A3 : Option Addr) (c3 : Nat) (b : List (List Int)) (gone : Int) (r : Bool) (w : World)
    (hr0 : Kd.C (Kd.int .i64) w A0 own.length own) (hc0 : own.length ≤ c0) (hr2 : Kd.C (Kd.slice 3 (Kd.int .i64)) w A2 a.length a) (hc2 : a.length ≤ c2) (hr3 : Kd.C (Kd.slice 3 (Kd.int .i64)) w A3 b.length b) (hc3 : b.length ≤ c3) (h : r = true) :
    Calls Try.prog 6 #[.slice A0 own.length c0, .int .i64 self, .slice A2 a.length c2, .slice A3 b.length c3, .int .i64 gone] w fun e w' => e = .returned (.bool r) ∧ Below w.heap.size w w' := by
  subst h
  obtain ⟨k1, h1⟩ := alive_evl
  obtain ⟨sa, ⟨k2, h2⟩, hsa⟩ := small_evl a
  obtain ⟨sb, ⟨k3, h3⟩, hsb⟩ := small_evl b
  have HR2 := Aside0.mk hr2
  have HR3 := Aside0.mk hr3
  have HC2 := Aside0.mk hc2
  have HC3 := Aside0.mk hc3
  by_cases hl : own.length ≤ 6
  · have hd : decide ((6 : Int) < (own.length : Int)) = false := decide_eq_false (by omega)
    cases sa with
    | false =>
      have hk : ∃ k, k1 ≤ k ∧ k2 ≤ k := ⟨k1 + k2, by omega, by omega⟩
      obtain ⟨k, g1, g2⟩ := hk
      have HA := Aside0.mk (h1 k g1)
      have HSa := Aside0.mk (h2 k g2)
      clear h1 h2 h3 hsa hsb hr0 hr2 hr3 hc0 hc2 hc3
      go_enter Try.func6, Try.ntmps6
      go_wp2_with fail
      refine (drumlinelaw15_alive.calls k true _ HA.out).mono ?_
      rintro e w1 ⟨rfl, hb1⟩
      have B1 := Aside0.mk hb1
      clear hb1
      go_wp2_with fail
      with_reducible refine (drumlinelaw15_small.calls k _ _ a false _ (Kd.C_below HR2.out B1.out) HC2.out HSa.out).mono ?_
      rintro e w2 ⟨rfl, hD2⟩
      have B2 := Aside0.mk (below_step B1.out hD2.below)
      clear hD2
      go_wp2_with fail
      refine (drumlinelaw15_alive.calls k true _ HA.out).mono ?_
      rintro e w4 ⟨rfl, hb4⟩
      have B4 := Aside0.mk (below_step B2.out hb4)
      clear hb4
      go_wp2_with fail
      go_ret
      exact ⟨rfl, B4.out⟩
    | true =>
      cases sb with
      | false =>
        have hk : ∃ k, k1 ≤ k ∧ k2 ≤ k ∧ k3 ≤ k := ⟨k1 + k2 + k3, by omega, by omega, by omega⟩
        obtain ⟨k, g1, g2, g3⟩ := hk
        have HA := Aside0.mk (h1 k g1)
        have HSa := Aside0.mk (h2 k g2)
        have HSb := Aside0.mk (h3 k g3)
        clear h1 h2 h3 hsa hsb hr0 hr2 hr3 hc0 hc2 hc3
        go_enter Try.func6, Try.ntmps6
        go_wp2_with fail
        refine (drumlinelaw15_alive.calls k true _ HA.out).mono ?_
        rintro e w1 ⟨rfl, hb1⟩
        have B1 := Aside0.mk hb1
        clear hb1
        go_wp2_with fail
        with_reducible refine (drumlinelaw15_small.calls k _ _ a true _ (Kd.C_below HR2.out B1.out) HC2.out HSa.out).mono ?_
        rintro e w2 ⟨rfl, hD2⟩
        have B2 := Aside0.mk (below_step B1.out hD2.below)
        clear hD2
        go_wp2_with fail
        with_reducible refine (drumlinelaw15_small.calls k _ _ b false _ (Kd.C_below HR3.out B2.out) HC3.out HSb.out).mono ?_
        rintro e w3 ⟨rfl, hD3⟩
        have B3 := Aside0.mk (below_step B2.out hD3.below)
        clear hD3
        go_wp2_with fail
        refine (drumlinelaw15_alive.calls k true _ HA.out).mono ?_
        rintro e w4 ⟨rfl, hb4⟩
        have B4 := Aside0.mk (below_step B3.out hb4)
        clear hb4
        go_wp2_with fail
        go_ret
        exact ⟨rfl, B4.out⟩
      | true =>
        have la := hsa rfl
        have lb := hsb rfl
        have hcut : cut6 own = own.length := by unfold cut6; omega
        have ly : (nx own self (a ++ b) gone).length = own.length := by rw [nx_length, hcut]
        obtain ⟨k4, h4⟩ := next_evl (l := own) (self := self) (g := gone) (h := a) (by omega)
        obtain ⟨k5, h5⟩ := next_evl (l := own) (self := self) (g := gone) (h := a ++ b) (by rw [List.length_append]; omega)
        obtain ⟨k6, h6⟩ := next_evl (l := own) (self := self) (g := gone) (h := b ++ a) (by rw [List.length_append]; omega)
        obtain ⟨k7, h7⟩ := same_evl (a := nx own self (a ++ b) gone) (by rw [ly]; omega)
        have hk : ∃ k, k1 ≤ k ∧ k2 ≤ k ∧ k3 ≤ k ∧ k4 ≤ k ∧ k5 ≤ k ∧ k6 ≤ k ∧ k7 ≤ k := ⟨k1 + k2 + k3 + k4 + k5 + k6 + k7, by omega, by omega, by omega, by omega, by omega, by omega, by omega⟩
        obtain ⟨k, g1, g2, g3, g4, g5, g6, g7⟩ := hk
        have z6 := h6 k g6
        rw [← nx_app] at z6
        exact order_walk k A0 A2 A3 c0 c2 c3 own self gone a b _ _ w hr0 hc0 hr2 hc2 hr3 hc3 hl la lb (h1 k g1) (h2 k g2) (h3 k g3) (h4 k g4) (h5 k g5) z6 (h7 k g7) (by rw [nx_length, hcut]) ly (fun i i0 i1 => nx_le i0 (by rw [hcut]; exact i1))
  · have hd : decide ((6 : Int) < (own.length : Int)) = true := decide_eq_true (by omega)
    obtain ⟨k, hk⟩ : ∃ k, k1 ≤ k := ⟨k1, by omega⟩
    have HA := Aside0.mk (h1 k hk)
    clear h1 h2 h3 hsa hsb hr0 hr2 hr3 hc0 hc2 hc3 hl
    go_enter Try.func6, Try.ntmps6
    go_wp2_with fail
    refine (drumlinelaw15_alive.calls k true _ HA.out).mono ?_
    rintro e w1 ⟨rfl, hb1⟩
    have B1 := Aside0.mk hb1
    clear hb1
    go_wp2_with fail
    refine (drumlinelaw15_alive.calls k true _ HA.out).mono ?_
    rintro e w4 ⟨rfl, hb4⟩
    have B4 := Aside0.mk (below_step B1.out hb4)
    clear hb4
    go_wp2_with fail
    go_ret
    exact ⟨rfl, B4.out⟩
theorem AgesOrder (own : List Int) (self : Int) (a b : List (List Int)) (gone : Int) (h0 : (∀ x ∈ own, (fun (n : Int) => (Lit.int .i64 n).wf = true) x) ∧ own.length ≤ 9223372036854775807) (h1 : (Lit.int .i64 self).wf = true)
    (h2 : (∀ x ∈ a, (fun (l : List (Int)) => (∀ x ∈ l, (fun (n : Int) => (Lit.int .i64 n).wf = true) x) ∧ l.length ≤ 9223372036854775807) x) ∧ a.length ≤ 9223372036854775807) (h3 : (∀ x ∈ b, (fun (l : List (Int)) => (∀ x ∈ l, (fun (n : Int) => (Lit.int .i64 n).wf = true) x) ∧ l.length ≤ 9223372036854775807) x) ∧ b.length ≤ 9223372036854775807) (h4 : (Lit.int .i64 gone).wf = true) : true = true := rfl
end Go.Proofs.Ythkagdbabkkomaa.Ord
