/- The reader: Take, field, Number, Offset, At and Bad, whatever its state. -/
import Derived.Test.YthkagdbabkkomaaHRe
import Derived.Test.YthkagdbabkkomaaMWix6
import Derived.Test.YthkagdbabkkomaaMWix19
set_option linter.unusedVariables false
set_option linter.unusedSimpArgs false
namespace Go.Proofs.Ythkagdbabkkomaa.HRd
open Go.RowKit Go.Proofs.Ythkagdbabkkomaa.MWi Go.Proofs.YthkagdbabkkomaaW.PrintWords Go.Proofs.YthkagdbabkkomaaW.PrintLast Go.Proofs.YthkagdbabkkomaaW.PrintMore
/-- What comes of taking n of l at at_: the bytes, where one stands then, whether it is bad. -/
def tk (l : List Int) (at_ : Int) (bad : Bool) (n : Int) : List Int × Int × Bool :=
  if bad = true ∨ n < 0 ∨ (l.length : Int) - at_ < n then ([], at_, true) else ((l.take (at_ + n).toNat).drop at_.toNat, at_ + n, false)
def fd (l : List Int) (at_ : Int) (bad : Bool) (n : Int) : List Int × Int × Bool :=
  if 1 ≤ n ∧ n ≤ 7 then tk l at_ bad n else ([], at_, true)
theorem tk_in {l : List Int} {at_ : Int} {bad : Bool} {n : Int} (a0 : 0 ≤ at_) (a1 : at_ ≤ l.length) : 0 ≤ (tk l at_ bad n).2.1 ∧ (tk l at_ bad n).2.1 ≤ l.length := by
  unfold tk; split
  · exact ⟨a0, a1⟩
  · rename_i h; simp only [not_or] at h; simp only; omega
theorem fd_in {l : List Int} {at_ : Int} {bad : Bool} {n : Int} (a0 : 0 ≤ at_) (a1 : at_ ≤ l.length) : 0 ≤ (fd l at_ bad n).2.1 ∧ (fd l at_ bad n).2.1 ≤ l.length := by
  unfold fd; split
  · exact tk_in a0 a1
  · exact ⟨a0, a1⟩
structure After (w w' : World) (base g : Nat) (v0 : Value) (l : List Int) (at_ : Int) (bad : Bool) : Prop where
  below : Below base w w'
  keep : KeepBut w w' g none
  rd : Rd w' base g v0 l at_ bad
theorem After.then_ {w w1 w2 : World} {base g : Nat} {v0 : Value} {l : List Int} {at1 at2 : Int} {b1 b2 : Bool} (h : After w w1 base g v0 l at1 b1) (k : After w1 w2 base g v0 l at2 b2) : After w w2 base g v0 l at2 b2 :=
  ⟨h.below.trans k.below, h.keep.trans k.keep (.inl rfl), k.rd⟩
theorem After.more {w w1 w2 : World} {base g : Nat} {v0 : Value} {l : List Int} {at1 : Int} {b1 : Bool} (h : After w w1 base g v0 l at1 b1) (k : Below w1.heap.size w1 w2) : After w w2 base g v0 l at1 b1 :=
  ⟨h.below.trans (k.mono (Nat.le_trans h.rd.2.2 (Nat.le_of_lt (blk_lt h.rd.1)))), h.keep.trans (KeepBut.of_below k g none) (.inl rfl), ⟨(k.block g (blk_lt h.rd.1)).trans h.rd.1, Kd.R_below h.rd.2.1 k, h.rd.2.2⟩⟩
theorem After.same {w : World} {base g : Nat} {v0 : Value} {l : List Int} {at1 : Int} {b1 : Bool} (h : Rd w base g v0 l at1 b1) : After w w base g v0 l at1 b1 := ⟨Below.refl _ _, KeepBut.refl _ _ _, h⟩
theorem After.bad {w : World} {base g : Nat} {v0 : Value} {l : List Int} {at1 : Int} {b1 : Bool} (h : Rd w base g v0 l at1 b1) (m : Nat) (b : Bool) : After w ((w.drewN m).setCell ⟨g, 2, none⟩ (.bool b)) base g v0 l at1 b := by
  have h1 : Rd (w.drewN m) base g v0 l at1 b1 := ⟨h.1, Kd.R_drewN h.2.1 m, h.2.2⟩
  exact ⟨(pw_below_drewN (Below.refl _ _) m).setCell h.2.2 _, (KeepBut.of_below (pw_below_drewN (Below.refl _ _) m) g none : KeepBut w (w.drewN m) g none).set_ 2 (.bool b), h1.put.2 b⟩
theorem Rd.drewN {w : World} {base g : Nat} {v0 : Value} {l : List Int} {at1 : Int} {b1 : Bool} (h : Rd w base g v0 l at1 b1) (m : Nat) : Rd (w.drewN m) base g v0 l at1 b1 := ⟨h.1, Kd.R_drewN h.2.1 m, h.2.2⟩
theorem After.drewN {w : World} {base g : Nat} {v0 : Value} {l : List Int} {at1 : Int} {b1 : Bool} (h : Rd w base g v0 l at1 b1) (m : Nat) : After w (w.drewN m) base g v0 l at1 b1 := (After.same h).more (pw_below_drewN (Below.refl _ _) m)
variable {base g : Nat} {A : Option Addr} {c : Nat} {l : List Int} {at_ : Int} {bad : Bool}
theorem take_walk (n : Int) (w : World) (h : Rd w base g (.slice A l.length c) l at_ bad) (a0 : 0 ≤ at_) (a1 : at_ ≤ l.length) (hl : l.length ≤ 1000000) :
    Calls Try.prog 31 #[.pointer (some ⟨g, 0, none⟩), .int .i64 n] w fun e w' => ∃ v, e = .returned v ∧ (Kd.int .u8).R 5 w' w.heap.size (fun _ => True) v (tk l at_ bad n).1 ∧ After w w' base g (.slice A l.length c) l (tk l at_ bad n).2.1 (tk l at_ bad n).2.2 := by
  unfold tk
  cases bad with
  | true =>
    rw [if_pos (.inl rfl)]
    refine (take_bad n w h).mono ?_
    rintro e w' ⟨rfl, rfl⟩
    exact ⟨_, rfl, Kd.R_nil _ _ _ _ _, After.same h⟩
  | false =>
    by_cases hn : n < 0 ∨ (l.length : Int) - at_ < n
    · rw [if_pos (.inr hn)]
      refine (take_no n w h a0 a1 hl hn).mono ?_
      rintro e w' ⟨rfl, m, rfl⟩
      exact ⟨_, rfl, Kd.R_nil _ _ _ _ _, After.bad h m true⟩
    · rw [if_neg (by simp only [not_or]; exact ⟨by decide, by omega, by omega⟩)]
      refine (take_yes n w h a0 a1 hl (by omega) (by omega)).mono ?_
      rintro e w' ⟨v, rfl, h1, h2, h3, h4⟩
      exact ⟨v, rfl, h1, h2, h3, h4⟩
set_option maxHeartbeats 1000000 in
theorem field_walk (n : Int) (w : World) (h : Rd w base g (.slice A l.length c) l at_ bad) (a0 : 0 ≤ at_) (a1 : at_ ≤ l.length) (hl : l.length ≤ 1000000) :
    Calls Try.prog 49 #[.pointer (some ⟨g, 0, none⟩), .int .i64 n] w fun e w' => ∃ v, e = .returned v ∧ (Kd.int .u8).R 5 w' w.heap.size (fun _ => True) v (fd l at_ bad n).1 ∧ After w w' base g (.slice A l.length c) l (fd l at_ bad n).2.1 (fd l at_ bad n).2.2 := by
  have hr : wire_right.f n = some (decide (1 ≤ n ∧ n ≤ 7)) := by
    unfold wire_right.f
    by_cases h1 : 1 ≤ n
    · rw [if_pos h1]; simp [h1]
    · rw [if_neg h1]; simp [h1]
  have HR := Aside0.mk hr
  have HH := Aside0.mk h
  clear h hr
  by_cases hn : 1 ≤ n ∧ n ≤ 7
  · rw [show fd l at_ bad n = tk l at_ bad n from if_pos hn]
    rw [decide_eq_true hn] at HR
    go_enter Try.func49, Try.ntmps49
    go_wp2_with (first | (go_at_call 47; refine (wire_right.calls n _ _ HR.out).mono ?_; rintro e w1 ⟨rfl, ⟨m, rfl⟩⟩) | (go_at_call 31; refine (take_walk n _ (HH.out.drewN m) a0 a1 hl).mono ?_; rintro e w1 ⟨v, rfl, ho, hA⟩; have HO := Aside0.mk ho; have HA := Aside0.mk hA; clear ho hA))
    go_ret
    exact ⟨_, rfl, HO.out, (After.drewN HH.out m).then_ HA.out⟩
  · rw [show fd l at_ bad n = ([], at_, true) from if_neg hn]
    rw [decide_eq_false hn] at HR
    obtain ⟨hc0, hc1, hc2⟩ := HH.out.cell
    have hf2 := blk_frozen HH.out.1 2
    go_enter Try.func49, Try.ntmps49
    go_wp2_with (first | (go_at_call 47; refine (wire_right.calls n _ _ HR.out).mono ?_; rintro e w1 ⟨rfl, ⟨m, rfl⟩⟩))
    refine (take_bad n _ (After.bad HH.out m true).rd).mono ?_
    rintro e w1 ⟨rfl, rfl⟩
    go_wp2
    go_ret
    exact ⟨_, rfl, Kd.R_nil _ _ _ _ _, After.bad HH.out m true⟩
/-- Number's answer, by the printed contract of Number. -/
theorem numberR_walk (k : Nat) (n r : Int) (w : World) (h : Rd w base g (.slice A l.length c) l at_ bad) (a0 : 0 ≤ at_) (a1 : at_ ≤ l.length) (hl : l.length ≤ 1000000) (hf : wire_Number.f k (fd l at_ bad n).1 = some r) :
    Calls Try.prog 32 #[.pointer (some ⟨g, 0, none⟩), .int .i64 n] w fun e w' => e = .returned (.int .i64 r) ∧ After w w' base g (.slice A l.length c) l (fd l at_ bad n).2.1 (fd l at_ bad n).2.2 := by
  have HH := Aside0.mk h
  have HF := Aside0.mk hf
  clear h hf
  go_enter Try.func32, Try.ntmps32
  go_wp2_with (first | (go_at_call 49; refine (field_walk n _ HH.out a0 a1 hl).mono ?_; rintro e w1 ⟨v, rfl, ho, hA⟩; obtain ⟨A1, c1, rfl⟩ := Kd.R_slice ho; have HO := Aside0.mk ho; have HA := Aside0.mk hA; clear ho hA) | (go_at_call 28; refine (wire_Number.calls k _ _ _ r _ (Kd.R_reads' HO.out).2.2 (Kd.R_reads' HO.out).2.1 HF.out).mono ?_; rintro e w2 ⟨rfl, hD⟩; have HD := Aside0.mk hD; clear hD))
  go_ret
  exact ⟨rfl, HA.out.more HD.out.below⟩
theorem offsetR_walk (k : Nat) (n r : Int) (w : World) (h : Rd w base g (.slice A l.length c) l at_ bad) (a0 : 0 ≤ at_) (a1 : at_ ≤ l.length) (hl : l.length ≤ 1000000) (hf : wire_Offset.f k (fd l at_ bad n).1 = some r) :
    Calls Try.prog 41 #[.pointer (some ⟨g, 0, none⟩), .int .i64 n] w fun e w' => e = .returned (.int .i64 r) ∧ After w w' base g (.slice A l.length c) l (fd l at_ bad n).2.1 (fd l at_ bad n).2.2 := by
  have HH := Aside0.mk h
  have HF := Aside0.mk hf
  clear h hf
  go_enter Try.func41, Try.ntmps41
  go_wp2_with (first | (go_at_call 49; refine (field_walk n _ HH.out a0 a1 hl).mono ?_; rintro e w1 ⟨v, rfl, ho, hA⟩; obtain ⟨A1, c1, rfl⟩ := Kd.R_slice ho; have HO := Aside0.mk ho; have HA := Aside0.mk hA; clear ho hA) | (go_at_call 37; refine (wire_Offset.calls k _ _ _ r _ (Kd.R_reads' HO.out).2.2 (Kd.R_reads' HO.out).2.1 HF.out).mono ?_; rintro e w2 ⟨rfl, hD⟩; have HD := Aside0.mk hD; clear hD))
  go_ret
  exact ⟨rfl, HA.out.more HD.out.below⟩
theorem badR_walk (w : World) (v0 : Value) (h : Rd w base g v0 l at_ bad) :
    Calls Try.prog 33 #[.pointer (some ⟨g, 0, none⟩)] w fun e w' => e = .returned (.bool bad) ∧ w' = w := by
  obtain ⟨hc0, hc1, hc2⟩ := h.cell
  clear h
  go_enter Try.func33, Try.ntmps33
  go_wp2
  go_ret
  exact ⟨rfl, rfl⟩
theorem atR_walk (w : World) (v0 : Value) (h : Rd w base g v0 l at_ bad) :
    Calls Try.prog 34 #[.pointer (some ⟨g, 0, none⟩)] w fun e w' => e = .returned (.int .i64 at_) ∧ w' = w := by
  obtain ⟨hc0, hc1, hc2⟩ := h.cell
  clear h
  go_enter Try.func34, Try.ntmps34
  go_wp2
  go_ret
  exact ⟨rfl, rfl⟩
end Go.Proofs.Ythkagdbabkkomaa.HRd
