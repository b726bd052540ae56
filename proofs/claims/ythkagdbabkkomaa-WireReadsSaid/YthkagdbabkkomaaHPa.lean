/- WireParts, step by step: bytes taken in parts are the bytes. -/
import Derived.Test.YthkagdbabkkomaaHAl
set_option linter.unusedVariables false
set_option linter.unusedSimpArgs false
namespace Go.Proofs.Ythkagdbabkkomaa.HRd
open Go.RowKit Go.Proofs.Ythkagdbabkkomaa.MWi Go.Proofs.YthkagdbabkkomaaW.PrintWords Go.Proofs.YthkagdbabkkomaaW.PrintLast Go.Proofs.YthkagdbabkkomaaW.PrintMore
theorem str {W : World} {A : Option Addr} {c : Nat} {l : List Int} {n : Nat} (hn : n = l.length) (h : Kd.C (Kd.int .u8) W A l.length l) : (convert 22 9 (.slice A n c)).run Try.prog W = .ok (.string (strOfNums l)) W := by
  subst hn; exact Kd.C_string (P := Try.prog) (A := A) (c := c) Try.underlying22 Try.underlying5 Try.underlying9 h
theorem tk_no {l : List Int} {at_ n : Int} (h : (l.length : Int) - at_ < n) : tk l at_ false n = ([], at_, true) := by
  unfold tk; rw [if_pos (.inr (.inr h))]
theorem tk_bad (l : List Int) (at_ n : Int) : tk l at_ true n = ([], at_, true) := by
  unfold tk; rw [if_pos (.inl rfl)]
theorem fd_bad (l : List Int) (at_ n : Int) : fd l at_ true n = ([], at_, true) := by
  unfold fd; split
  · exact tk_bad l at_ n
  · rfl
theorem tk_yes {l : List Int} {at_ n : Int} (h0 : 0 ≤ n) (h : n ≤ (l.length : Int) - at_) : tk l at_ false n = ((l.take (at_ + n).toNat).drop at_.toNat, at_ + n, false) := by
  unfold tk; rw [if_neg (by simp only [not_or]; exact ⟨by decide, by omega, by omega⟩)]
theorem num0 : wire_Number.f 10 [] = some 0 := by decide +kernel
theorem mod9 {x : Int} (h0 : 0 ≤ x) : 0 ≤ Int.tmod x 9 ∧ Int.tmod x 9 ≤ 8 := by
  rw [Int.tmod_eq_emod_of_nonneg h0]; omega
theorem rd_in {l : List Int} (h : ∀ x ∈ l, 0 ≤ x ∧ x ≤ 255) (i : Int) : 0 ≤ rd l i ∧ rd l i ≤ 255 := by
  unfold rd
  by_cases hi : i.toNat < l.length
  · rw [List.getD_eq_getElem?_getD, List.getElem?_eq_getElem hi]; exact h _ (List.getElem_mem _)
  · rw [List.getD_eq_getElem?_getD, List.getElem?_eq_none (by omega)]; simp
theorem neqs (a : ByteArray) : (a.toList != a.toList) = false := by simp
set_option maxHeartbeats 4000000 in
theorem parts_long (A0 A1 : Option Addr) (c0 c1 : Nat) (l m : List Int) (w : World) (hr0 : Kd.C (Kd.int .u8) w A0 l.length l) (hr1 : Kd.C (Kd.int .u8) w A1 m.length m) (hl : 500 < l.length ∨ 100 < m.length) :
    Calls Try.prog 9 #[.slice A0 l.length c0, .slice A1 m.length c1] w fun e w' => e = .returned (.bool true) ∧ Below w.heap.size w w' := by
  clear hr0 hr1
  by_cases h0 : l.length ≤ 500
  · have hd : decide ((500 : Int) < (l.length : Int)) = false := decide_eq_false (by omega)
    have hd1 : decide ((100 : Int) < (m.length : Int)) = true := decide_eq_true (by omega)
    clear hl
    go_enter Try.func9, Try.ntmps9
    go_wp2_with fail
    refine (alive_walk _).mono ?_
    rintro e w1 ⟨rfl, hb1⟩
    have B1 := Aside0.mk hb1
    clear hb1
    go_wp2_with fail
    refine (alive_walk _).mono ?_
    rintro e w2 ⟨rfl, hb2⟩
    have B2 := Aside0.mk (below_step B1.out hb2)
    clear hb2
    go_wp2_with fail
    go_ret
    exact ⟨rfl, B2.out⟩
  · have hd : decide ((500 : Int) < (l.length : Int)) = true := decide_eq_true (by omega)
    clear hl
    go_enter Try.func9, Try.ntmps9
    go_wp2_with fail
    refine (alive_walk _).mono ?_
    rintro e w1 ⟨rfl, hb1⟩
    have B1 := Aside0.mk hb1
    clear hb1
    go_wp2_with fail
    refine (alive_walk _).mono ?_
    rintro e w2 ⟨rfl, hb2⟩
    have B2 := Aside0.mk (below_step B1.out hb2)
    clear hb2
    go_wp2_with fail
    go_ret
    exact ⟨rfl, B2.out⟩
set_option maxHeartbeats 8000000 in
set_option maxRecDepth 100000 in
theorem parts_walk (A0 A1 : Option Addr) (c0 c1 : Nat) (l m : List Int) (w : World) (hr0 : Kd.C (Kd.int .u8) w A0 l.length l) (hr1 : Kd.C (Kd.int .u8) w A1 m.length m) (hc0 : l.length ≤ c0) (hc1 : m.length ≤ c1) (hl : l.length ≤ 500) (hm : m.length ≤ 100) (hb : ∀ x ∈ m, 0 ≤ x ∧ x ≤ 255) :
    Calls Try.prog 9 #[.slice A0 l.length c0, .slice A1 m.length c1] w fun e w' => e = .returned (.bool true) ∧ Below w.heap.size w w' := by
  have HR0 := Aside0.mk hr0
  have HR1 := Aside0.mk hr1
  have HC0 := Aside0.mk hc0
  have HC1 := Aside0.mk hc1
  have HBm := Aside0.mk hb
  clear hr0 hr1 hc0 hc1 hb
  have hd : decide ((500 : Int) < (l.length : Int)) = false := decide_eq_false (by omega)
  have hd1 : decide ((100 : Int) < (m.length : Int)) = false := decide_eq_false (by omega)
  go_enter Try.func9, Try.ntmps9
  go_wp2_with fail
  refine (alive_walk _).mono ?_
  rintro e w1 ⟨rfl, hb1⟩
  have B1 := Aside0.mk hb1
  clear hb1
  go_wp2_with fail
  refine (new_walk A0 c0 l _ (Kd.C_below HR0.out B1.out) (by omega)).mono ?_
  rintro e w2 ⟨g, v2, rfl, hR2, hb2⟩
  obtain ⟨A2, c2, rfl⟩ := Kd.R_slice hR2.2.1
  have HRd := Aside0.mk hR2
  have B2 := Aside0.mk (below_step B1.out hb2)
  have HS := Aside0.mk B1.out.size
  clear hR2 hb2
  go_wp2_with fail
  go_loopg [6, 7] (m.length + 1) (fun kq v6 v7 w' => ∃ (at_ : Int) (i : Int), v6 = .int .i64 at_ ∧ v7 = .int .i64 i ∧ Aside0 (kq + i = m.length + 1 ∧ 0 ≤ i) ∧ Aside0 (0 ≤ at_ ∧ at_ ≤ l.length) ∧ Aside0 (Rd w' w1.heap.size g (.slice A2 l.length c2) l at_ false) ∧ Aside0 (Below w.heap.size w w'))
  case atStart => exact ⟨0, 0, rfl, rfl, ⟨by omega⟩, ⟨by omega⟩, HRd, B2⟩
  case round =>
    obtain ⟨at_, i, rfl, rfl, HK, HT, HG, HB⟩ := hrel
    by_cases hi : i < (m.length : Int)
    · have h0 := HK.out.2
      obtain ⟨ad, e1, hx⟩ := Kd.at_int (Kd.C_below HR1.out HB.out) i h0 hi
      cases e1
      have hx0 := Aside0.mk (rd_in HBm.out i)
      have hn := Aside0.mk (mod9 hx0.out.1)
      have hw1 : wrap64 (rd m i) = rd m i := by have := hx0.out; unfold wrap64; omega
      have c1b0 : decide (i < (m.length : Int)) = true := decide_eq_true hi
      have p0 := eq_true h0
      have q0 := eq_true hi
      generalize hnn : Int.tmod (rd m i) 9 = n at *
      obtain ⟨a0, a1⟩ := HT.out
      have n0 := hn.out.1
      have n8 := hn.out.2
      cases gk with
      | zero => exact absurd HK.out (by omega)
      | succ k1 =>
      by_cases hno : (l.length : Int) - at_ < n
      · have d1 : decide ((l.length : Int) - at_ < n) = true := decide_eq_true hno
        go_wp2_with fail
        refine (take_walk n _ HG.out a0 a1 (by omega)).mono ?_
        rw [tk_no hno]
        rintro e w3 ⟨v3, rfl, ho3, hA3⟩
        obtain ⟨A3, c3, rfl⟩ := Kd.R_slice ho3
        have HA3 := Aside0.mk hA3
        clear ho3 hA3
        go_wp2_with fail
        refine (take_walk 0 _ HA3.out.rd a0 a1 (by omega)).mono ?_
        rw [tk_bad]
        rintro e w4 ⟨v4, rfl, ho4, hA4⟩
        obtain ⟨A4, c4, rfl⟩ := Kd.R_slice ho4
        have HA4 := Aside0.mk hA4
        clear ho4 hA4
        go_wp2_with fail
        refine (numberR_walk 10 1 0 _ HA4.out.rd a0 a1 (by omega) (by rw [fd_bad]; exact num0)).mono ?_
        rw [fd_bad]
        rintro e w5 ⟨rfl, hA5⟩
        have HA5 := Aside0.mk hA5
        clear hA5
        go_wp2_with fail
        refine (badR_walk _ _ HA5.out.rd).mono ?_
        rintro e w6 ⟨rfl, rfl⟩
        go_wp2_with fail
        refine (atR_walk _ _ HA5.out.rd).mono ?_
        rintro e w7 ⟨rfl, rfl⟩
        go_wp2_with fail
        go_ret
        exact ⟨rfl, HB.out.trans ((HA3.out.below.trans (HA4.out.below.trans HA5.out.below)).mono HS.out)⟩
      · have d1 : decide ((l.length : Int) - at_ < n) = false := decide_eq_false hno
        have hyes : n ≤ (l.length : Int) - at_ := by omega
        clear hno
        go_wp2_with fail
        refine (take_walk n _ HG.out a0 a1 (by omega)).mono ?_
        rw [tk_yes n0 hyes]
        have hmax : (at_ + n) ≤ (l.length : Int) := by omega
        have hw3 : wrap64 (at_ + n) = at_ + n := by unfold wrap64; omega
        have hw4 : wrap64 (i + 1) = i + 1 := by unfold wrap64; omega
        have hw5 : IntKind.i64.wrap (at_ + n) = at_ + n := wi64 (by omega) (by omega)
        obtain ⟨i5, hi5, hz5⟩ : ∃ i, Try.prog.info? 5 = some i ∧ i.size = 1 := by
          have := hinfo5
          obtain ⟨i, hi, hh⟩ := Option.map_eq_some_iff.1 this
          exact ⟨i, hi, by simp only [Prod.mk.injEq] at hh; exact hh.2.1⟩
        obtain ⟨A', hcut, hreads, _⟩ := print_mid_int (P := Try.prog) (k := .u8) 22 5 Try.underlying22 hi5 hz5 A0 c0 l at_ (at_ + n) a0 (by omega) hmax HC0.out
        have HRds := Aside0.mk hreads
        clear hreads hi5 hz5
        generalize (l.take (at_ + n).toNat).drop at_.toNat = mid at *
        rintro e w3 ⟨v3, rfl, ho3, hA3⟩
        obtain ⟨A9, c9, rfl⟩ := Kd.R_slice ho3
        have HA3 := Aside0.mk hA3
        have HB3 := Aside0.mk (HB.out.trans (HA3.out.below.mono HS.out))
        have BD := Aside0.mk (below_drew HB3.out)
        have HGd : Aside0 (Rd w3.drew w1.heap.size g (.slice A2 l.length c2) l (at_ + n) false) := Aside0.mk (HA3.out.rd.drewN 1)
        have f1 : (convert 22 9 (.slice A9 mid.length c9)).run Try.prog w3.drew = .ok (.string (strOfNums mid)) w3.drew := str rfl (Kd.C_drew (Kd.R_reads' ho3).2.2)
        have f2 : (convert 22 9 (.slice A' mid.length (c0 - at_.toNat))).run Try.prog w3.drew = .ok (.string (strOfNums mid)) w3.drew := str rfl (Kd.C_of_reads (h1 := fun _ => rfl) (HRds.out _ (Kd.reads_of_C (Kd.C_below HR0.out BD.out))))
        clear ho3 hA3
        have hq := neqs (strOfNums mid)
        go_wp2_with fail
        -- REGION 14
        refine start_ (n := 14) (S := fun w' => (convert 22 9 (.slice A9 mid.length c9)).run Try.prog w' = .ok (.string (strOfNums mid)) w' ∧ (convert 22 9 (.slice A' mid.length (c0 - at_.toNat))).run Try.prog w' = .ok (.string (strOfNums mid)) w') (ds := []) #[false, false, false, false, false, false, false, false, false, false, false, false, false, false] (by kernel_rfl) rfl rfl ⟨f1, f2⟩ (fun hHeld => ?_)
        generalize w3.drew = wd at BD HGd f1 f2 hHeld ⊢
        refine pure_ (i := 0) (N := some 74) (v := ?_) (a' := ?_) #[true, false, false, false, false, false, false, false, false, false, false, false, false, false] rfl rfl (by kernel_rfl) (fun _ _ _ h => h) (Or.inl ⟨by rfl, ?_⟩) ?_ ?_
        rotate_left
        · intro w'
          go_simp
          with_reducible rfl
        rotate_left
        · simp only [Act.put, List.setIfInBounds_toArray, List.set_cons_zero, List.set_cons_succ, i64_w, i32_w]
          rfl
        refine pure_ (i := 2) (N := some 76) (v := ?_) (a' := ?_) #[true, false, true, false, false, false, false, false, false, false, false, false, false, false] rfl rfl (by kernel_rfl) (fun _ _ _ h => h) (Or.inl ⟨by rfl, ?_⟩) ?_ ?_
        rotate_left
        · intro w'
          go_simp
          with_reducible rfl
        rotate_left
        · simp only [Act.put, List.setIfInBounds_toArray, List.set_cons_zero, List.set_cons_succ, i64_w, i32_w]
          rfl
        refine pure_ (i := 3) (N := some 77) (v := ?_) (a' := ?_) #[true, false, true, true, false, false, false, false, false, false, false, false, false, false] rfl rfl (by kernel_rfl) (fun _ _ _ h => h) (Or.inl ⟨by rfl, ?_⟩) ?_ ?_
        rotate_left
        · intro w'
          go_simp
          with_reducible rfl
        rotate_left
        · simp only [Act.put, List.setIfInBounds_toArray, List.set_cons_zero, List.set_cons_succ, i64_w, i32_w]
          rfl
        refine pure_ (i := 4) (N := some 78) (v := ?_) (a' := ?_) #[true, false, true, true, true, false, false, false, false, false, false, false, false, false] rfl rfl (by kernel_rfl) (fun _ _ _ h => h) (Or.inl ⟨by rfl, ?_⟩) ?_ ?_
        rotate_left
        · intro w'
          go_simp
          with_reducible rfl
        rotate_left
        · simp only [Act.put, List.setIfInBounds_toArray, List.set_cons_zero, List.set_cons_succ, i64_w, i32_w]
          rfl
        refine pure_ (i := 5) (N := some 79) (v := ?_) (a' := ?_) #[true, false, true, true, true, true, false, false, false, false, false, false, false, false] rfl rfl (by kernel_rfl) (fun _ _ _ h => h) (Or.inl ⟨by rfl, ?_⟩) ?_ ?_
        rotate_left
        · intro w'
          go_simp
          with_reducible rfl
        rotate_left
        · simp only [Act.put, List.setIfInBounds_toArray, List.set_cons_zero, List.set_cons_succ, i64_w, i32_w]
          rfl
        refine pure_ (i := 6) (N := some 80) (v := ?_) (a' := ?_) #[true, false, true, true, true, true, true, false, false, false, false, false, false, false] rfl rfl (by kernel_rfl) (fun _ _ _ h => h) (Or.inl ⟨by rfl, ?_⟩) ?_ ?_
        rotate_left
        · intro w'
          go_simp
          with_reducible rfl
        rotate_left
        · simp only [Act.put, List.setIfInBounds_toArray, List.set_cons_zero, List.set_cons_succ, i64_w, i32_w]
          rfl
        refine pure_ (i := 7) (N := some 81) (v := ?_) (a' := ?_) #[true, false, true, true, true, true, true, true, false, false, false, false, false, false] rfl rfl (by kernel_rfl) (fun _ _ _ h => h) (Or.inl ⟨by rfl, ?_⟩) ?_ ?_
        rotate_left
        · intro w'
          go_simp
          with_reducible rfl
        rotate_left
        · simp only [Act.put, List.setIfInBounds_toArray, List.set_cons_zero, List.set_cons_succ, i64_w, i32_w]
          rfl
        refine take_ (i := 1) (N := some 75) (v := ?_) (a' := ?_) #[true, true, true, true, true, true, true, true, false, false, false, false, false, false] rfl rfl (by kernel_rfl) (fun _ _ _ h => h) (Or.inl ⟨by rfl, ?_⟩) hHeld ?_ ?_
        rotate_left
        · rintro w' ⟨s0, s1⟩
          go_simp
          with_reducible rfl
        rotate_left
        · simp only [Act.put, List.setIfInBounds_toArray, List.set_cons_zero, List.set_cons_succ, i64_w, i32_w]
          rfl
        refine take_ (i := 8) (N := some 82) (v := ?_) (a' := ?_) #[true, true, true, true, true, true, true, true, true, false, false, false, false, false] rfl rfl (by kernel_rfl) (fun _ _ _ h => h) (Or.inl ⟨by rfl, ?_⟩) hHeld ?_ ?_
        rotate_left
        · rintro w' ⟨s0, s1⟩
          go_simp
          with_reducible rfl
        rotate_left
        · simp only [Act.put, List.setIfInBounds_toArray, List.set_cons_zero, List.set_cons_succ, i64_w, i32_w]
          rfl
        refine pure_ (i := 9) (N := some 83) (v := ?_) (a' := ?_) #[true, true, true, true, true, true, true, true, true, true, false, false, false, false] rfl rfl (by kernel_rfl) (fun _ _ _ h => h) (Or.inl ⟨by rfl, ?_⟩) ?_ ?_
        rotate_left
        · intro w'
          go_simp
          with_reducible rfl
        rotate_left
        · simp only [Act.put, List.setIfInBounds_toArray, List.set_cons_zero, List.set_cons_succ, i64_w, i32_w]
          rfl
        refine pure_ (i := 10) (N := some 84) (v := ?_) (a' := ?_) #[true, true, true, true, true, true, true, true, true, true, true, false, false, false] rfl rfl (by kernel_rfl) (fun _ _ _ h => h) (Or.inl ⟨by rfl, ?_⟩) ?_ ?_
        rotate_left
        · intro w'
          go_simp
          with_reducible rfl
        rotate_left
        · simp only [Act.put, List.setIfInBounds_toArray, List.set_cons_zero, List.set_cons_succ, i64_w, i32_w]
          rfl
        refine pure_ (i := 11) (N := some 85) (v := ?_) (a' := ?_) #[true, true, true, true, true, true, true, true, true, true, true, true, false, false] rfl rfl (by kernel_rfl) (fun _ _ _ h => h) (Or.inl ⟨by rfl, ?_⟩) ?_ ?_
        rotate_left
        · intro w'
          go_simp
          with_reducible rfl
        rotate_left
        · simp only [Act.put, List.setIfInBounds_toArray, List.set_cons_zero, List.set_cons_succ, i64_w, i32_w]
          rfl
        refine one_ (i := 12) (N := some 86) #[true, true, true, true, true, true, true, true, true, true, true, true, true, false] rfl rfl (by kernel_rfl) (by decide) (fun K hK => ?_)
        refine goes_ Try.func33 (by kernel_rfl) rfl #[.pointer (some ⟨g, 0, none⟩)] (by rfl) rfl rfl (by simp only [List.map_toArray, List.map_cons, List.map_nil]; rfl) ?_
        with_reducible refine (badR_walk _ _ HGd.out).mono ?_
        rintro e w9 ⟨rfl, rfl⟩
        refine ⟨_, rfl, ?_⟩
        refine hK.out _ _ ⟨f1, f2⟩ (fun hHeld => ?_)
        clear hK K
        refine norm_ (a' := ?_) ?_ ?_
        rotate_left
        · show Act.put _ (some 86) _ = _
          simp only [Act.put, List.setIfInBounds_toArray, List.set_cons_zero, List.set_cons_succ, i64_w, i32_w]
          rfl
        refine pure_ (i := 13) (N := some 87) (v := ?_) (a' := ?_) #[true, true, true, true, true, true, true, true, true, true, true, true, true, true] rfl rfl (by kernel_rfl) (fun _ _ _ h => h) (Or.inl ⟨by rfl, ?_⟩) ?_ ?_
        rotate_left
        · intro w'
          go_simp
          with_reducible rfl
        rotate_left
        · simp only [Act.put, List.setIfInBounds_toArray, List.set_cons_zero, List.set_cons_succ, i64_w, i32_w]
          rfl
        refine done_ (by kernel_rfl) ?_
        -- END 14
        go_wp2_with fail
        trace_state
        go_roundg k1
        case measure => have := HK.out; omega
        case rel => exact ⟨at_ + n, i + 1, rfl, rfl, ⟨by have := HK.out; omega⟩, ⟨by omega⟩, HGd, BD⟩
    · have c1b0 : decide (i < (m.length : Int)) = false := decide_eq_false hi
      go_wp2_with fail
      refine (atR_walk _ _ HG.out).mono ?_
      rintro e w6 ⟨rfl, rfl⟩
      go_wp2_with fail
      go_ret
      exact ⟨rfl, HB.out⟩
end Go.Proofs.Ythkagdbabkkomaa.HRd
