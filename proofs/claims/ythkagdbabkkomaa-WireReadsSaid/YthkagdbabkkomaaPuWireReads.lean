/- WireReads: what any bytes are, read in whatever way: each answer, how many bytes were read, whether it failed. No conditions. -/
import Derived.Test.YthkagdbabkkomaaHWr
import Derived.Test.YthkagdbabkkomaaPlain
import Derived.Test.YthkagdbabkkomaaOpen
import Derived.ChangeSame
set_option linter.unusedVariables false
set_option linter.unusedSimpArgs false
namespace Go.Proofs.Ythkagdbabkkomaa.Pure
open Go.RowKit Go.Proofs.Ythkagdbabkkomaa.Opn Go.Proofs.YthkagdbabkkomaaW.PrintWords Go.Proofs.YthkagdbabkkomaaW.PrintLast Go.Proofs.YthkagdbabkkomaaW.PrintMore
/-- What reads as a deed is two numbers. -/
theorem opens_deed : Opens Try.prog 55 HRd.deed (fun _ => True) := by
  intro H enc W fuel cs x h
  obtain ⟨y0, y1, n, _, hl, h0, h1⟩ := Go.ChangeShapes.trod_struct2 Try.underlying55 h
  have e2 : Try.prog.cellsOf 55 = 2 := by kernel_rfl
  have e1 : Try.prog.cellsOf 3 = 1 := by kernel_rfl
  rw [e2] at hl
  obtain ⟨a, b, rfl⟩ : ∃ a b, cs = [a, b] := by
    match cs, hl with
    | [a, b], _ => exact ⟨a, b, rfl⟩
  simp only [e1, List.drop_zero, List.drop_succ_cons, List.take_succ_cons, List.take_zero] at h0 h1
  obtain ⟨p, hp, _, _⟩ := DataW.trod_int Try.underlying3 h0
  obtain ⟨q, hq, _, _⟩ := DataW.trod_int Try.underlying3 h1
  simp only [List.cons.injEq, and_true] at hp hq
  subst hp
  subst hq
  exact ⟨(p, q), rfl, trivial⟩
set_option maxHeartbeats 4000000 in
theorem reads_long (A0 A1 : Option Addr) (c0 c1 : Nat) (l : List Int) (m : List (Int × Int)) (w : World) (hl : 500 < l.length ∨ 100 < m.length) :
    Calls Try.prog 13 #[.slice A0 l.length c0, .slice A1 m.length c1] w fun e w' => e = .returned (.bool true) ∧ Below w.heap.size w w' := by
  by_cases h0 : l.length ≤ 500
  · have hd : decide ((500 : Int) < (l.length : Int)) = false := decide_eq_false (by omega)
    have hd1 : decide ((100 : Int) < (m.length : Int)) = true := decide_eq_true (by omega)
    clear hl
    go_enter Try.func13, Try.ntmps13
    go_wp2_with fail
    refine (HRd.alive_walk _).mono ?_
    rintro e w1 ⟨rfl, hb1⟩
    have B1 := Aside0.mk hb1
    clear hb1
    go_wp2_with fail
    refine (HRd.alive_walk _).mono ?_
    rintro e w2 ⟨rfl, hb2⟩
    have B2 := Aside0.mk (below_step B1.out hb2)
    clear hb2
    go_wp2_with fail
    go_ret
    exact ⟨rfl, B2.out⟩
  · have hd : decide ((500 : Int) < (l.length : Int)) = true := decide_eq_true (by omega)
    clear hl
    go_enter Try.func13, Try.ntmps13
    go_wp2_with fail
    refine (HRd.alive_walk _).mono ?_
    rintro e w1 ⟨rfl, hb1⟩
    have B1 := Aside0.mk hb1
    clear hb1
    go_wp2_with fail
    refine (HRd.alive_walk _).mono ?_
    rintro e w2 ⟨rfl, hb2⟩
    have B2 := Aside0.mk (below_step B1.out hb2)
    clear hb2
    go_wp2_with fail
    go_ret
    exact ⟨rfl, B2.out⟩
theorem reads_calls (A0 : Option Addr) (c0 : Nat) (l : List Int) (A1 : Option Addr) (c1 : Nat) (m : List (Int × Int)) (r : Bool) (w : World) (hr0 : Kd.C (Kd.int .u8) w A0 l.length l) (hc0 : l.length ≤ c0) (hr1 : Kd.C HRd.deed w A1 m.length m) (hc1 : m.length ≤ c1) (h : Wire.Bys l ∧ r = true) :
    Calls Try.prog 13 #[.slice A0 l.length c0, .slice A1 m.length c1] w fun e w' => e = .returned (.bool r) ∧ Below w.heap.size w w' := by
  obtain ⟨hb, rfl⟩ := h
  by_cases hl : l.length ≤ 500 ∧ m.length ≤ 100
  · exact HRd.reads_walk A0 A1 c0 c1 l m w hr0 hc0 hr1 hc1 hl.1 hl.2 hb
  · exact reads_long A0 A1 c0 c1 l m w (by omega)
theorem WireReads (l : List Int) (m : List (Int × Int)) (h0 : (∀ x ∈ l, (fun (n : Int) => (Lit.int .u8 n).wf = true) x) ∧ l.length ≤ 9223372036854775807) (h1 : (∀ x ∈ m, (fun (_ : Int × Int) => True) x) ∧ m.length ≤ 9223372036854775807) : Wire.Bys l ∧ true = true := ⟨fun x hx => Plain.wfu8 (h0.1 x hx), rfl⟩
end Go.Proofs.Ythkagdbabkkomaa.Pure
