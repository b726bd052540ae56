/- SumTells: what any bytes' sum is, in one piece and in two, and what a byte does to the register. No conditions. -/
import Derived.Test.YtblaoljlcdgemaaHTe
import Derived.Test.YtblaoljlcdgemaaPuSumOpens
set_option linter.unusedVariables false
set_option linter.unusedSimpArgs false
namespace Go.Proofs.Ytblaoljlcdgemaa.Pure
open Go.RowKit Go.Proofs.Ytblaoljlcdgemaa.MS Go.Proofs.YtblaoljlcdgemaaW.PrintWords Go.Proofs.YtblaoljlcdgemaaW.PrintLast Go.Proofs.YtblaoljlcdgemaaW.PrintMore Go.Proofs.Ytblaoljlcdgemaa.Plain Go.Proofs.Ytblaoljlcdgemaa.Evl Go.Proofs.Ytblaoljlcdgemaa.Sum
/-- What SumTells answers: true, whatever the bytes. -/
theorem tells_calls (A0 : Option Addr) (c0 : Nat) (l : List Int) (A1 : Option Addr) (c1 : Nat) (m : List Int) (i : Int) (r : Bool) (w : World) (hr0 : Kd.C (Kd.int .u8) w A0 l.length l) (hc0 : l.length ≤ c0) (hr1 : Kd.C (Kd.int .u8) w A1 m.length m) (hc1 : m.length ≤ c1) (h : (Bys l ∧ Bys m ∧ 0 ≤ i ∧ i ≤ 255) ∧ r = true) :
    Calls Try.prog 14 #[.slice A0 l.length c0, .slice A1 m.length c1, .int .u8 i] w fun e w' => e = .returned (.bool r) ∧ Below w.heap.size w w' := by
  obtain ⟨⟨hb, hbm, i0, i1⟩, rfl⟩ := h
  by_cases hl : l.length ≤ 1500 ∧ m.length ≤ 1500
  · obtain ⟨k1, h1⟩ := alive_evl
    obtain ⟨k2, h2⟩ := rof_evl hb (show l.length ≤ 100000 by omega)
    obtain ⟨k3, h3⟩ := of_evl hb (show l.length ≤ 100000 by omega)
    obtain ⟨k4, h4⟩ := more_evl hbm (show m.length ≤ 100000 by omega) (more 0#32 (L l))
    obtain ⟨k5, h5⟩ := rmore_evl hbm (show m.length ≤ 100000 by omega) (more 0#32 (L l))
    obtain ⟨k6, h6⟩ := eight_evl (top (byt i))
    have hk : ∃ k, k1 ≤ k ∧ k2 ≤ k ∧ k3 ≤ k ∧ k4 ≤ k ∧ k5 ≤ k ∧ k6 ≤ k := ⟨k1 + k2 + k3 + k4 + k5 + k6, by omega, by omega, by omega, by omega, by omega, by omega⟩
    obtain ⟨k, g1, g2, g3, g4, g5, g6⟩ := hk
    have a6 := h6 k g6
    rw [← top_V i0 i1, show ((i % 4294967296) * 16777216) % 4294967296 = i * 16777216 by omega] at a6
    exact HTb.tells_walk k A0 A1 c0 c1 l m i _ _ w hr0 hr1 hc0 hc1 hl.1 hl.2 i0 i1 (h1 k g1) (h2 k g2) (h3 k g3) (h4 k g4) (h5 k g5) a6
  · obtain ⟨k, h1⟩ := alive_evl
    have HA := Aside0.mk (h1 k (Nat.le_refl _))
    clear h1
    by_cases h0 : l.length ≤ 1500
    · have hd : decide ((1500 : Int) < (l.length : Int)) = false := decide_eq_false (by omega)
      have hd1 : decide ((1500 : Int) < (m.length : Int)) = true := decide_eq_true (by omega)
      clear hl hb hbm hr0 hr1
      go_enter Try.func14, Try.ntmps14
      go_wp2_with fail
      refine (drumlinelaw2_alive.calls k true _ HA.out).mono ?_
      rintro e w1 ⟨rfl, hb1⟩
      have B1 := Aside0.mk hb1
      clear hb1
      go_wp2_with fail
      refine (drumlinelaw2_alive.calls k true _ HA.out).mono ?_
      rintro e w2 ⟨rfl, hb2⟩
      have B2 := Aside0.mk (below_step B1.out hb2)
      clear hb2
      go_wp2_with fail
      go_ret
      exact ⟨rfl, B2.out⟩
    · have hd : decide ((1500 : Int) < (l.length : Int)) = true := decide_eq_true (by omega)
      clear hl hb hbm hr0 hr1
      go_enter Try.func14, Try.ntmps14
      go_wp2_with fail
      refine (drumlinelaw2_alive.calls k true _ HA.out).mono ?_
      rintro e w1 ⟨rfl, hb1⟩
      have B1 := Aside0.mk hb1
      clear hb1
      go_wp2_with fail
      refine (drumlinelaw2_alive.calls k true _ HA.out).mono ?_
      rintro e w2 ⟨rfl, hb2⟩
      have B2 := Aside0.mk (below_step B1.out hb2)
      clear hb2
      go_wp2_with fail
      go_ret
      exact ⟨rfl, B2.out⟩
theorem SumTells (l m : List Int) (i : Int) (h : (∀ x ∈ l, (fun (n : Int) => (Lit.int .u8 n).wf = true) x) ∧ l.length ≤ 9223372036854775807) (g : (∀ x ∈ m, (fun (n : Int) => (Lit.int .u8 n).wf = true) x) ∧ m.length ≤ 9223372036854775807) (hi : (Lit.int .u8 i).wf = true) : (Bys l ∧ Bys m ∧ 0 ≤ i ∧ i ≤ 255) ∧ true = true := ⟨⟨bys_of h.1, bys_of g.1, (wfu8 hi).1, (wfu8 hi).2⟩, rfl⟩
end Go.Proofs.Ytblaoljlcdgemaa.Pure
