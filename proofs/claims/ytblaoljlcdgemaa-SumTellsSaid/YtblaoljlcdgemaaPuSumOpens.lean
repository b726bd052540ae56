/- SumOpens: sealed bytes, and bytes whether they are sealed, for whatever bytes. No conditions. -/
import Derived.Test.YtblaoljlcdgemaaHOp
import Derived.Test.YtblaoljlcdgemaaPuSumMores
set_option linter.unusedVariables false
set_option linter.unusedSimpArgs false
namespace Go.Proofs.Ytblaoljlcdgemaa.Pure
open Go.RowKit Go.Proofs.Ytblaoljlcdgemaa.MS Go.Proofs.YtblaoljlcdgemaaW.PrintWords Go.Proofs.YtblaoljlcdgemaaW.PrintLast Go.Proofs.YtblaoljlcdgemaaW.PrintMore Go.Proofs.Ytblaoljlcdgemaa.Plain Go.Proofs.Ytblaoljlcdgemaa.Evl Go.Proofs.Ytblaoljlcdgemaa.Sum
theorem rof_evl {l : List Int} (hb : Bys l) (hl : l.length ≤ 100000) : Evl (fun k => drumlineref1_Of.f k l) (V (more 0#32 (L l))) := by
  unfold drumlineref1_Of.f
  exact Evl.bind (rmore_evl hb hl 0#32) (Evl.now fun _ => rfl)
theorem rcopy {l : List Int} (hl : l.length ≤ 100000) : drumlineref1_Copy.f l = some l := by
  unfold drumlineref1_Copy.f
  rw [if_pos (by simp; omega)]
  rfl
theorem rseal_evl {l : List Int} (hb : Bys l) (hl : l.length ≤ 100000) : Evl (fun k => drumlineref1_Seal.f k l) (sld l) := by
  unfold drumlineref1_Seal.f
  refine Evl.bind (rof_evl hb hl) ?_
  rw [rcopy hl]
  refine Evl.now fun _ => ?_
  simp only [Option.bind_some]
  rw [if_pos (by simp; omega)]
  rfl
theorem ropen_evl {l : List Int} (hb : Bys l) (hl : l.length ≤ 100000) : Evl (fun k => drumlineref1_Open.f k l) (if isSld l = true then (l.take (l.length - 4), true) else ([], false)) := by
  unfold drumlineref1_Open.f
  by_cases h : (l.length : Int) < 4
  · have : isSld l = false := by unfold isSld; simp; omega
    simp only [if_pos h, this]
    exact Evl.now fun _ => rfl
  · rw [w64 (x := (l.length : Int) - 4) (by omega) (by omega)]
    have e : ((l.length : Int) - 4).toNat = l.length - 4 := by omega
    simp only [if_neg h, if_pos (show 0 ≤ (l.length : Int) - 4 by omega), if_pos (show (l.length : Int) - 4 ≤ (l.length : Int) by omega), e]
    refine Evl.bind (rseal_evl (bys_take hb _) (by simp; omega)) (Evl.now fun _ => ?_)
    rw [rcopy (by simp; omega)]
    by_cases hs : sld (l.take (l.length - 4)) = l
    · have : isSld l = true := by unfold isSld; simp [hs]; omega
      rw [if_pos ((str_same (sld_bys (bys_take hb _)) hb).2 hs), this]
      rfl
    · have : isSld l = false := by unfold isSld; simp [hs]
      rw [if_neg (fun h => hs ((str_same (sld_bys (bys_take hb _)) hb).1 h)), this]
      rfl
theorem back {l : List Int} (hb : Bys l) (hl : l.length ≤ 1500) : Evl (fun k => sum_Open.f k (sld l)) (l, true) := by
  have h := open_evl (sld_bys hb) (show (sld l).length ≤ 100000 by rw [sld_length]; omega)
  have e : (sld l).take ((sld l).length - 4) = l := by rw [sld_length]; simp [sld]
  have e2 : isSld (sld l) = true := by
    unfold isSld
    rw [e, sld_length]
    simp
  rw [e2, if_pos rfl, e] at h
  exact h
/-- What SumOpens answers: true, whatever the bytes. -/
theorem opens_calls (A0 : Option Addr) (c0 : Nat) (l : List Int) (r : Bool) (w : World) (hr : Kd.C (Kd.int .u8) w A0 l.length l) (hc : l.length ≤ c0) (h : Bys l ∧ r = true) :
    Calls Try.prog 10 #[.slice A0 l.length c0] w fun e w' => e = .returned (.bool r) ∧ Below w.heap.size w w' := by
  obtain ⟨hb, rfl⟩ := h
  by_cases hl : l.length ≤ 1500
  · obtain ⟨k1, h1⟩ := alive_evl
    obtain ⟨k2, h2⟩ := open_evl hb (show l.length ≤ 100000 by omega)
    obtain ⟨k3, h3⟩ := ropen_evl hb (show l.length ≤ 100000 by omega)
    obtain ⟨k4, h4⟩ := seal_evl hb (show l.length ≤ 100000 by omega)
    obtain ⟨k5, h5⟩ := rseal_evl hb (show l.length ≤ 100000 by omega)
    obtain ⟨k6, h6⟩ := back hb hl
    have hk : ∃ k, k1 ≤ k ∧ k2 ≤ k ∧ k3 ≤ k ∧ k4 ≤ k ∧ k5 ≤ k ∧ k6 ≤ k := ⟨k1 + k2 + k3 + k4 + k5 + k6, by omega, by omega, by omega, by omega, by omega, by omega⟩
    obtain ⟨k, g1, g2, g3, g4, g5, g6⟩ := hk
    have a2 := h2 k g2
    have a3 := h3 k g3
    generalize (if isSld l = true then (l.take (l.length - 4), true) else (([] : List Int), false)) = xo at a2 a3
    obtain ⟨x, ok⟩ := xo
    exact HOp.opens_walk k A0 c0 l x (sld l) ok w hr hc hl (h1 k g1) a2 a3 (h4 k g4) (h5 k g5) (h6 k g6)
  · obtain ⟨k, h1⟩ := alive_evl
    have HA := Aside0.mk (h1 k (Nat.le_refl _))
    have hd : decide ((1500 : Int) < (l.length : Int)) = true := decide_eq_true (by omega)
    clear h1
    go_enter Try.func10, Try.ntmps10
    go_wp2_with fail
    refine (drumlinelaw2_alive.calls k true _ HA.out).mono ?_
    rintro e w1 ⟨rfl, hb1⟩
    have B1 := Aside0.mk hb1
    clear hb1
    go_wp2_with fail
    refine (drumlinelaw2_alive.calls k true _ HA.out).mono ?_
    rintro e w2 ⟨rfl, hb2⟩
    have B2 := Aside0.mk (below_step B1.out hb2)
    clear hb2
    go_wp2_with fail
    go_ret
    exact ⟨rfl, B2.out⟩
theorem SumOpens (l : List Int) (h : (∀ x ∈ l, (fun (n : Int) => (Lit.int .u8 n).wf = true) x) ∧ l.length ≤ 9223372036854775807) : Bys l ∧ true = true := ⟨bys_of h.1, rfl⟩
end Go.Proofs.Ytblaoljlcdgemaa.Pure
