/- The document's examples hold. -/
import Derived.Test.YthkagdbabkkomaaHRf
import Derived.Test.YthkagdbabkkomaaMWix3
import Derived.Test.YthkagdbabkkomaaMWix11
set_option linter.unusedVariables false
set_option linter.unusedSimpArgs false
namespace Go.Proofs.Ythkagdbabkkomaa.HRd
open Go.RowKit Go.Proofs.Ythkagdbabkkomaa.MWi Go.Proofs.YthkagdbabkkomaaW.PrintWords Go.Proofs.YthkagdbabkkomaaW.PrintLast Go.Proofs.YthkagdbabkkomaaW.PrintMore
theorem lit_reads {W : World} {b : Nat} (xs : List Int) (hn : xs.length ≤ 100) (h : ∀ j, j < xs.length → W.cell? ⟨b, j, none⟩ = some (.int .u8 (xs.getD j 0))) : Kd.C (Kd.int .u8) W (some ⟨b, 0, none⟩) xs.length xs :=
  Kd.C_of_reads (d := (0 : Int)) (h1 := fun _ => rfl) ⟨rfl, by omega, fun _ => ⟨_, rfl, fun j hj => by rw [add_plain]; exact h j hj⟩⟩
theorem lit_block {w : World} (xs : List Int) (hn : xs.length ≤ 100) (fr : Nat × Nat) : Kd.C (Kd.int .u8) (w.alloc (.cells (nums .u8 xs).toArray 5 fr)) (some ⟨w.heap.size, 0, none⟩) xs.length xs :=
  lit_reads xs hn (fun j hj => by
    have : (w.alloc (.cells (nums .u8 xs).toArray 5 fr)).cell? ⟨w.heap.size, j, none⟩ = (nums .u8 xs)[j]? := by
      have h := World.cell?_alloc_mark w (nums .u8 xs).toArray 5 fr j
      simpa using h
    rw [this]
    simp [nums, List.getElem?_eq_getElem hj, List.getD_eq_getElem?_getD])
theorem plain258 : wire_Plain.f 10 258 2 = some ([1, 2], true) := by decide +kernel
theorem signed1 : wire_Signed.f 10 (-1) 2 = some ([255, 255], true) := by decide +kernel
theorem num12 : wire_Number.f 10 [1, 2] = some 258 := by decide +kernel
theorem fd0 : fd [1, 2, 3] 0 false 2 = ([1, 2], 2, false) := by decide +kernel
theorem tk0 : tk [1, 2, 3] 2 false 2 = ([], 2, true) := by decide +kernel
theorem str12 : strOfNums [1, 2] = ⟨#[1, 2]⟩ := by decide +kernel
theorem str255 : strOfNums [255, 255] = ⟨#[255, 255]⟩ := by decide +kernel
set_option maxHeartbeats 1000000 in
theorem alive_walk (w : World) : Calls Try.prog 25 #[] w fun e w' => e = .returned (.bool true) ∧ Below w.heap.size w w' := by
  go_enter Try.func25, Try.ntmps25
  go_wp2_with fail
  refine (wire_Plain.calls 10 258 2 _ _ _ plain258).mono ?_
  rintro e w1 ⟨v1, rfl, hR1, hb1⟩
  obtain ⟨A1, c1, e1⟩ := Kd.R_slice hR1
  subst e1
  have HR1 := Aside0.mk hR1
  have HB1 := Aside0.mk hb1
  clear hR1 hb1
  go_wp2_with fail
  refine (wire_Signed.calls 10 (-1) 2 _ _ _ signed1).mono ?_
  rintro e w2 ⟨v2, rfl, hR2, hb2⟩
  obtain ⟨A2, c2, e2⟩ := Kd.R_slice hR2
  subst e2
  have HR2 := Aside0.mk hR2
  have HB2 := Aside0.mk hb2
  clear hR2 hb2
  go_wp2_with fail
  refine (new_walk _ _ [1, 2, 3] _ (lit_block [1, 2, 3] (by decide) (0, 0)) (by decide)).mono ?_
  rintro e w3 ⟨g, v3, rfl, hR3, hb3⟩
  obtain ⟨A3, c3, e3⟩ := Kd.R_slice hR3.2.1
  subst e3
  have HR3 := Aside0.mk hR3
  have HB3 := Aside0.mk hb3
  clear hR3 hb3
  go_wp2_with fail
  refine (numberR_walk 10 2 258 _ HR3.out (by decide) (by decide) (by decide) num12).mono ?_
  rintro e w4 ⟨rfl, hA4⟩
  rw [fd0] at hA4
  have HA4 := Aside0.mk hA4
  clear hA4
  go_wp2_with fail
  refine (take_walk 2 _ HA4.out.rd (by decide) (by decide) (by decide)).mono ?_
  rintro e w5 ⟨v5, rfl, hR5, hA5⟩
  rw [tk0] at hA5 hR5
  obtain ⟨A5, c5, e5⟩ := Kd.R_slice hR5
  subst e5
  have HA5 := Aside0.mk hA5
  clear hA5 hR5
  have b3 : Aside0 (Below w2.heap.size w2 w3) := Aside0.mk (below_then (below_alloc (Below.refl _ _) _) (by simp) HB3.out)
  have b3' : Aside0 (w2.heap.size ≤ (w2.alloc (Obj.cells (nums .u8 [1, 2, 3]).toArray 5)).heap.size) := Aside0.mk (by simp)
  have b5 : Aside0 (Below w2.heap.size w2 w5) := Aside0.mk (b3.out.trans ((HA4.out.below.trans HA5.out.below).mono b3'.out))
  have b5' : Aside0 (Below w1.heap.size w1 w5) := Aside0.mk (below_then HB2.out HB2.out.size b5.out)
  have hC1 : (convert 22 9 (.slice A1 2 c1)).run Try.prog w5 = .ok (.string ⟨#[1, 2]⟩) w5 := str12 ▸ (Kd.C_string (P := Try.prog) (c := c1) Try.underlying22 Try.underlying5 Try.underlying9 (Kd.C_below (Kd.R_reads' HR1.out).2.2 b5'.out))
  have hC2 : (convert 22 9 (.slice A2 2 c2)).run Try.prog w5 = .ok (.string ⟨#[255, 255]⟩) w5 := str255 ▸ (Kd.C_string (P := Try.prog) (c := c2) Try.underlying22 Try.underlying5 Try.underlying9 (Kd.C_below (Kd.R_reads' HR2.out).2.2 b5.out))
  go_wp2_with fail
  refine (badR_walk _ _ HA5.out.rd).mono ?_
  rintro e w6 ⟨rfl, rfl⟩
  go_wp2_with fail
  refine (atR_walk _ _ HA5.out.rd).mono ?_
  rintro e w7 ⟨rfl, rfl⟩
  go_wp2_with fail
  go_ret
  exact ⟨rfl, below_then HB1.out HB1.out.size b5'.out⟩
end Go.Proofs.Ythkagdbabkkomaa.HRd
