/- AgesOrder, step by step. -/
import Derived.Test.YthkagdbabkkomaaMAox3
import Derived.Test.YthkagdbabkkomaaMAox6
import Derived.Test.YthkagdbabkkomaaMAox7
import Derived.Test.YthkagdbabkkomaaMAox8
set_option linter.unusedVariables false
set_option linter.unusedSimpArgs false
namespace Go.Proofs.Ythkagdbabkkomaa.HOr
open Go.RowKit Go.Proofs.Ythkagdbabkkomaa.MAo Go.Proofs.YthkagdbabkkomaaW.PrintWords Go.Proofs.YthkagdbabkkomaaW.PrintLast Go.Proofs.YthkagdbabkkomaaW.PrintMore
theorem hinfo25 : (Try.prog.info? 25).map (fun i => (i.zero, i.size, i.bytes)) = some (some (.slice none 0 0), 1, 24) := by kernel_rfl
abbrev kin : Kd (List Int) := Kd.slice 3 (Kd.int .i64)
/-- Rows whose elements lead to rows that came in: what is known of them is known of the world ahead. -/
def kept (w0 : World) : Kd (List Int) where
  sz := 1
  E := []
  K := fun _ x cs => kin.K w0 x cs
  M := fun _ _ _ x cs => kin.K w0 x cs
  K_len := fun h => kin.K_len h
  K_one := fun h => kin.K_one h
  K_below := fun _ h => h
  K_of_M := fun h => h
  M_mono := fun _ h => h
  M_bound := fun h => h
  M_move := fun _ h => h
  M_lower := fun _ h => h
theorem to_kept {w0 W : World} {A : Option Addr} {n : Nat} {xs : List (List Int)} (h : Kd.C kin w0 A n xs) (hb : Below w0.heap.size w0 W) : ReadsRow ((kept w0).K W) 1 W A n xs :=
  ReadsRow.imp_ h hb (fun _ _ hp => hp)
theorem of_kept {w0 W : World} {A : Option Addr} {n : Nat} {xs : List (List Int)} (h : Kd.C (kept w0) W A n xs) (hb : Below w0.heap.size w0 W) : Kd.C kin W A n xs :=
  ReadsRow.imp_ h (Below.refl _ _) (fun _ _ hp => kin.K_below hb hp)
theorem rd_at {W : World} {A : Option Addr} {xs : List Int} (h : Kd.C (Kd.int .i64) W A xs.length xs) (i : Int) (h0 : 0 ≤ i) (h1 : i < xs.length) : ∃ ad, A = some ad ∧ W.cell? (ad.add i.toNat) = some (.int .i64 (rd xs i)) := Kd.at_int h i h0 h1
set_option maxHeartbeats 4000000 in
set_option maxRecDepth 100000 in
theorem order_walk (k : Nat) (A0 A2 A3 : Option Addr) (c0 c2 c3 : Nat) (own : List Int) (self gone : Int) (a b : List (List Int)) (x y : List Int) (w : World)
    (hr0 : Kd.C (Kd.int .i64) w A0 own.length own) (hc0 : own.length ≤ c0) (hr2 : Kd.C kin w A2 a.length a) (hc2 : a.length ≤ c2) (hr3 : Kd.C kin w A3 b.length b) (hc3 : b.length ≤ c3)
    (hl : own.length ≤ 6) (ha : a.length ≤ 30) (hb : b.length ≤ 30)
    (hA : drumlinelaw15_alive.f k = some true) (hSa : drumlinelaw15_small.f k a = some true) (hSb : drumlinelaw15_small.f k b = some true)
    (hX : ages_Next.f k own self a gone = some x) (hY : ages_Next.f k own self (a ++ b) gone = some y) (hZ : ages_Next.f k own self (b ++ a) gone = some y)
    (hS : drumlineref1_SameInts.f k y y = some true) (hx : x.length = own.length) (hy : y.length = own.length) (hle : ∀ i : Int, 0 ≤ i → i < own.length → rd y i ≤ rd x i) :
    Calls Try.prog 6 #[.slice A0 own.length c0, .int .i64 self, .slice A2 a.length c2, .slice A3 b.length c3, .int .i64 gone] w fun e w' => e = .returned (.bool true) ∧ Below w.heap.size w w' := by
  have HR0 := Aside0.mk hr0
  have HR2 := Aside0.mk hr2
  have HR3 := Aside0.mk hr3
  have HC0 := Aside0.mk hc0
  have HC2 := Aside0.mk hc2
  have HC3 := Aside0.mk hc3
  have HA := Aside0.mk hA
  have HSa := Aside0.mk hSa
  have HSb := Aside0.mk hSb
  have HX := Aside0.mk hX
  have HY := Aside0.mk hY
  have HZ := Aside0.mk hZ
  have HS := Aside0.mk hS
  have Hx := Aside0.mk hx
  have Hy := Aside0.mk hy
  have Hle := Aside0.mk hle
  clear hr0 hr2 hr3 hc0 hc2 hc3 hA hSa hSb hX hY hZ hS hx hy hle
  have hd : decide ((6 : Int) < (own.length : Int)) = false := decide_eq_false (by omega)
  go_enter Try.func6, Try.ntmps6
  go_wp2_with fail
  refine (drumlinelaw15_alive.calls k true _ HA.out).mono ?_
  rintro e w1 ⟨rfl, hb1⟩
  have B1 := Aside0.mk hb1
  clear hb1
  go_wp2_with fail
  with_reducible refine (drumlinelaw15_small.calls k _ _ a true _ (Kd.C_below HR2.out B1.out) HC2.out HSa.out).mono ?_
  rintro e w2 ⟨rfl, hD2⟩
  have B2 := Aside0.mk (below_step B1.out hD2.below)
  clear hD2
  go_wp2_with fail
  with_reducible refine (drumlinelaw15_small.calls k _ _ b true _ (Kd.C_below HR3.out B2.out) HC3.out HSb.out).mono ?_
  rintro e w3 ⟨rfl, hD3⟩
  have B3 := Aside0.mk (below_step B2.out hD3.below)
  clear hD3
  go_wp2_with fail
  with_reducible refine (ages_Next.calls k _ _ own self _ _ a gone x _ (Kd.C_below HR0.out B3.out) HC0.out (Kd.C_below HR2.out B3.out) HC2.out HX.out).mono ?_
  rintro e w4 ⟨v4, rfl, ho4, hb4⟩
  obtain ⟨A4, c4, rfl⟩ := Kd.R_slice ho4
  have R4 := Aside0.mk ho4
  have B4 := Aside0.mk (below_step B3.out hb4)
  clear ho4 hb4
  go_wp2_with (first
    | ((with_reducible refine gate_builtin (b := .append) (xs := #[.const (.slice none 0 0), .tmp 40]) rfl ?_); at_builtin; refine Kd.R_append_rows (kept w) (w0 := w4) w4.heap.size rfl (.const (.slice none 0 0)) (.tmp 40) 26 25 (.slice none 0 0) 24 rfl Try.underlying26 hinfo25 rfl (show 0 < (kept w).sz from Nat.one_pos) (by omega) (.slice none 0 0) ([] : List (List Int)) a _ _ _ (fun _ => True) (fun _ => False) rfl rfl ?aO ?aR (fun _ _ h => h) (fun _ h => h.elim) ?aF ?aB ?aS ?aL ?_; (case aR => exact to_kept HR2.out B4.out); (case aB => exact Below.refl _ _); (case aF => exact (fun _ _ => trivial)); (case aO => exact (Kd.R_nil _ _ _ _ _)); (case aS => exact Nat.le_refl _); (case aL => simp only [List.length_nil]; omega); intro v5 w5 ho hb hg hat; rw [List.nil_append] at ho; have O5 := Aside0.mk ho; have B5 := Aside0.mk hb; have C5 := Aside0.mk (below_step B4.out hb); clear ho hb hg hat)
    | ((with_reducible refine gate_builtin (b := .append) (xs := #[.tmp 41, .tmp 42]) rfl ?_); at_builtin; refine Kd.R_append_rows (kept w) (w0 := w4) w4.heap.size rfl (.tmp 41) (.tmp 42) 26 25 (.slice none 0 0) 24 rfl Try.underlying26 hinfo25 rfl (show 0 < (kept w).sz from Nat.one_pos) (by omega) v5 a b _ _ _ (fun _ => True) (fun _ => False) rfl rfl ?aO ?aR (fun _ _ h => h) (fun _ h => h.elim) ?aF ?aB ?aS ?aL ?_; (case aR => exact to_kept HR3.out C5.out); (case aB => exact B5.out); (case aF => exact (fun _ _ => trivial)); (case aO => exact O5.out); (case aS => exact B5.out.size); (case aL => omega); intro v6 w6 ho hb hg hat; obtain ⟨A6, c6, e6⟩ := Kd.R_slice ho; subst e6; have O6 := Aside0.mk ho; have B6 := Aside0.mk hb; have C6 := Aside0.mk (below_step B4.out hb); clear ho hb hg hat))
  rw [show a.length + b.length = (a ++ b).length from List.length_append.symm]
  with_reducible refine (ages_Next.calls k _ _ own self _ _ (a ++ b) gone y _ (Kd.C_below HR0.out C6.out) HC0.out (of_kept (Kd.R_reads' O6.out).2.2 C6.out) (Kd.R_reads' O6.out).2.1 HY.out).mono ?_
  rintro e w7 ⟨v7, rfl, ho7, hb7⟩
  obtain ⟨A7, c7, rfl⟩ := Kd.R_slice ho7
  have R7 := Aside0.mk ho7
  have B7 := Aside0.mk (below_step C6.out hb7)
  have D4 := Aside0.mk (below_step B6.out hb7)
  clear ho7 hb7
  go_wp2_with (first
    | ((with_reducible refine gate_builtin (b := .append) (xs := #[.const (.slice none 0 0), .tmp 48]) rfl ?_); at_builtin; refine Kd.R_append_rows (kept w) (w0 := w7) w7.heap.size rfl (.const (.slice none 0 0)) (.tmp 48) 26 25 (.slice none 0 0) 24 rfl Try.underlying26 hinfo25 rfl (show 0 < (kept w).sz from Nat.one_pos) (by omega) (.slice none 0 0) ([] : List (List Int)) b _ _ _ (fun _ => True) (fun _ => False) rfl rfl ?aO ?aR (fun _ _ h => h) (fun _ h => h.elim) ?aF ?aB ?aS ?aL ?_; (case aR => exact to_kept HR3.out B7.out); (case aB => exact Below.refl _ _); (case aF => exact (fun _ _ => trivial)); (case aO => exact (Kd.R_nil _ _ _ _ _)); (case aS => exact Nat.le_refl _); (case aL => simp only [List.length_nil]; omega); intro v8 w8 ho hb hg hat; rw [List.nil_append] at ho; have O8 := Aside0.mk ho; have B8 := Aside0.mk hb; have C8 := Aside0.mk (below_step B7.out hb); clear ho hb hg hat)
    | ((with_reducible refine gate_builtin (b := .append) (xs := #[.tmp 49, .tmp 50]) rfl ?_); at_builtin; refine Kd.R_append_rows (kept w) (w0 := w7) w7.heap.size rfl (.tmp 49) (.tmp 50) 26 25 (.slice none 0 0) 24 rfl Try.underlying26 hinfo25 rfl (show 0 < (kept w).sz from Nat.one_pos) (by omega) v8 b a _ _ _ (fun _ => True) (fun _ => False) rfl rfl ?aO ?aR (fun _ _ h => h) (fun _ h => h.elim) ?aF ?aB ?aS ?aL ?_; (case aR => exact to_kept HR2.out C8.out); (case aB => exact B8.out); (case aF => exact (fun _ _ => trivial)); (case aO => exact O8.out); (case aS => exact B8.out.size); (case aL => omega); intro v9 w9 ho hb hg hat; obtain ⟨A9, c9, e9⟩ := Kd.R_slice ho; subst e9; have O9 := Aside0.mk ho; have B9 := Aside0.mk hb; have C9 := Aside0.mk (below_step B7.out hb); clear ho hb hg hat))
  rw [show b.length + a.length = (b ++ a).length from List.length_append.symm]
  with_reducible refine (ages_Next.calls k _ _ own self _ _ (b ++ a) gone y _ (Kd.C_below HR0.out C9.out) HC0.out (of_kept (Kd.R_reads' O9.out).2.2 C9.out) (Kd.R_reads' O9.out).2.1 HZ.out).mono ?_
  rintro e wa ⟨va, rfl, hoa, hba⟩
  obtain ⟨Aa, ca, rfl⟩ := Kd.R_slice hoa
  have Ra := Aside0.mk hoa
  have Ba := Aside0.mk (below_step C9.out hba)
  have D7 := Aside0.mk (below_step B9.out hba)
  have D4a := Aside0.mk (below_step D4.out D7.out)
  have hlx := Hx.out
  have hly := Hy.out
  clear hoa hba
  go_wp2_with fail
  have C4a := Aside0.mk (Kd.C_below (Kd.R_reads' R4.out).2.2 D4a.out)
  have C7a := Aside0.mk (Kd.C_below (Kd.R_reads' R7.out).2.2 D7.out)
  have CAa := Aside0.mk (Kd.R_reads' Ra.out).2.2
  have HSm := drumlineref1_SameInts.calls k A7 c7 y Aa ca y true wa C7a.out (Kd.R_reads' R7.out).2.1 CAa.out (Kd.R_reads' Ra.out).2.1 HS.out
  rw [hly] at HSm
  refine HSm.mono ?_
  clear HSm
  rintro e wb ⟨rfl, hDb⟩
  have Bb := Aside0.mk (below_step Ba.out hDb.below)
  have E4 := Aside0.mk (Kd.C_below C4a.out hDb.below)
  have E7 := Aside0.mk (Kd.C_below C7a.out hDb.below)
  clear hDb
  go_wp2_with fail
  go_loopg [14] (own.length + 1) (fun kq v14 w' => ∃ (i : Int), v14 = .int .i64 i ∧ Aside0 (kq + i = own.length + 1 ∧ 0 ≤ i) ∧ Aside0 (Below wb.heap.size wb w'))
  case atStart => exact ⟨0, rfl, ⟨by omega⟩, ⟨Below.refl _ _⟩⟩
  case round =>
    obtain ⟨i, rfl, HK, HB⟩ := hrel
    by_cases hi : i < (own.length : Int)
    · have h0 := HK.out.2
      cases gk with
      | zero => exact absurd HK.out (by omega)
      | succ k1 =>
      obtain ⟨ad4, e4, hx4⟩ := Kd.at_int (Kd.C_below E4.out HB.out) i h0 (by rw [hlx]; exact hi)
      obtain ⟨ad7, e7, hx7⟩ := Kd.at_int (Kd.C_below E7.out HB.out) i h0 (by rw [hly]; exact hi)
      cases e4
      cases e7
      have c1b0 : decide (i < (own.length : Int)) = true := decide_eq_true hi
      have hno : decide (rd x i < rd y i) = false := decide_eq_false (by have := Hle.out i h0 hi; omega)
      have p0 := eq_true h0
      have p1 := eq_true hi
      have hw1 : wrap64 (i + 1) = i + 1 := by unfold wrap64; omega
      go_wp2
      go_quiet (fail)
      go_wp2
      go_roundg k1
      case measure => have := HK.out; omega
      case rel => exact ⟨i + 1, rfl, ⟨by have := HK.out; omega⟩, ⟨pw_below_drewN HB.out _⟩⟩
    · have c1b0 : decide (i < (own.length : Int)) = false := decide_eq_false hi
      go_wp2_with fail
      go_ret
      exact ⟨rfl, below_step Bb.out HB.out⟩
end Go.Proofs.Ythkagdbabkkomaa.HOr
