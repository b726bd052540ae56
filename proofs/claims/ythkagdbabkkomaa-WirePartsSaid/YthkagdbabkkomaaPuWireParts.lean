/- WireParts: bytes taken in parts are the bytes, and a reader that failed reads nothing any more. No conditions. -/
import Derived.Test.YthkagdbabkkomaaHPa
import Derived.Test.YthkagdbabkkomaaPlain
set_option linter.unusedVariables false
namespace Go.Proofs.Ythkagdbabkkomaa.Pure
open Go.RowKit Go.Proofs.YthkagdbabkkomaaW.PrintWords Go.Proofs.YthkagdbabkkomaaW.PrintLast Go.Proofs.YthkagdbabkkomaaW.PrintMore
theorem parts_calls (A0 : Option Addr) (c0 : Nat) (l : List Int) (A1 : Option Addr) (c1 : Nat) (m : List Int) (r : Bool) (w : World) (hr0 : Kd.C (Kd.int .u8) w A0 l.length l) (hc0 : l.length ≤ c0) (hr1 : Kd.C (Kd.int .u8) w A1 m.length m) (hc1 : m.length ≤ c1) (h : (∀ x ∈ m, 0 ≤ x ∧ x ≤ 255) ∧ r = true) :
    Calls Try.prog 9 #[.slice A0 l.length c0, .slice A1 m.length c1] w fun e w' => e = .returned (.bool r) ∧ Below w.heap.size w w' := by
  obtain ⟨hb, rfl⟩ := h
  by_cases hl : l.length ≤ 500 ∧ m.length ≤ 100
  · exact HRd.parts_walk A0 A1 c0 c1 l m w hr0 hr1 hc0 hc1 hl.1 hl.2 hb
  · exact HRd.parts_long A0 A1 c0 c1 l m w hr0 hr1 (by omega)
theorem WireParts (l m : List Int) (h0 : (∀ x ∈ l, (fun (n : Int) => (Lit.int .u8 n).wf = true) x) ∧ l.length ≤ 9223372036854775807) (h1 : (∀ x ∈ m, (fun (n : Int) => (Lit.int .u8 n).wf = true) x) ∧ m.length ≤ 9223372036854775807) : (∀ x ∈ m, 0 ≤ x ∧ x ≤ 255) ∧ true = true := ⟨fun x hx => Plain.wfu8 (h1.1 x hx), rfl⟩
end Go.Proofs.Ythkagdbabkkomaa.Pure
