/-
  No cell of these rows narrows 'for every input' (looked for: loops, veiled, ifaces, maps, wideKeys, modest, calm, conditions, laid).
  DERIVED. THE GIVEN ROWS OF THIS SEAT. 8 by the template 'for every input the law returns true; each argument reads behind the call as it read before'; 0 by the template 'total and deterministic' (their statements: YtkbcmmkhphfkgaaTotals.lean).
  GIVEN WITH THE SEED: the statements are not yours to turn. If you find one false, say at which input.
  Laid BY PROGRAM, IN A SANDBOX (cutbox-rows.mjs): the forced cells as the released guide's own fill.sh prints them over the translation 4c84fff9ad0ce87e… (all of the seat's roots in one cut). By AI agents, Wed Nov 11 2026. No macro, syntax, notation, axiom, sorry.
-/
import Derived.Test.YtkbcmmkhphfkgaaChecked
import GoSem.Claim
import GoSem.ClaimJoined
import GoSem.ClaimMapViews
import Derived.JoinedTies
import Derived.KernelRfl
namespace Go.Proofs.Ytkbcmmkhphfkgaa
/- THE CELL 'sum', in the pinned program and in every row, IS THE sha256 OF THE DUMP (.gsa) THAT YtkbcmmkhphfkgaaProg.lean LOADS. Nothing in Lean hashes anything: it is a label: what it is worth is what the hold of that sum in a sandbox is worth. -/
noncomputable def Try.pinned : Pinned := { name := "ytkbcmmkhphfkgaa", sum := "4c84fff9ad0ce87e54e2c1e0586fbbca0ead089ff166793c27e0db06df8902c7", checked := Try.checked }
namespace Rows
def none {H : Type} : Left H := { results := [], args := [] }

/-- 'drumlinelaw8.ClockTells': WHATEVER THE INPUT: true; the input reads as it did. -/
def clockTellsSpec : ChangeSpec := { name := "clockTells", fn := fun _ => fun
  | [d1, d2, d3] => { results := [.lit (.bool true)], args := [d1, d2, d3] }
  | _ => none }
def clockTellsRow : OpenClaim := { program := "ytkbcmmkhphfkgaa", sum := "4c84fff9ad0ce87e54e2c1e0586fbbca0ead089ff166793c27e0db06df8902c7", func := "drumline/drumlinelaw8.ClockTells", spec := "clockTells", apart := false }
def ClockTellsSaid : Prop := clockTellsRow.holds Try.pinned (OpenSpec.ofChange clockTellsSpec)

/-- ITS FALSE NEIGHBOUR: 'it returns false'. Refute it at one input. -/
def clockTellsWrong : ChangeSpec := { name := "clockTells", fn := fun _ => fun
  | [d1, d2, d3] => { results := [.lit (.bool false)], args := [d1, d2, d3] }
  | _ => none }
def ClockTellsWrongFalsely : Prop := clockTellsRow.holds Try.pinned (OpenSpec.ofChange clockTellsWrong)

/-- 'drumlinelaw8.ClockRounds': WHATEVER THE INPUT: true; the input reads as it did. -/
def clockRoundsSpec : ChangeSpec := { name := "clockRounds", fn := fun _ => fun
  | [d1, d2] => { results := [.lit (.bool true)], args := [d1, d2] }
  | _ => none }
def clockRoundsRow : OpenClaim := { program := "ytkbcmmkhphfkgaa", sum := "4c84fff9ad0ce87e54e2c1e0586fbbca0ead089ff166793c27e0db06df8902c7", func := "drumline/drumlinelaw8.ClockRounds", spec := "clockRounds", apart := false }
def ClockRoundsSaid : Prop := clockRoundsRow.holds Try.pinned (OpenSpec.ofChange clockRoundsSpec)

/-- ITS FALSE NEIGHBOUR: 'it returns false'. Refute it at one input. -/
def clockRoundsWrong : ChangeSpec := { name := "clockRounds", fn := fun _ => fun
  | [d1, d2] => { results := [.lit (.bool false)], args := [d1, d2] }
  | _ => none }
def ClockRoundsWrongFalsely : Prop := clockRoundsRow.holds Try.pinned (OpenSpec.ofChange clockRoundsWrong)

/-- 'drumlinelaw8.ClockThere': WHATEVER THE INPUT: true; the input reads as it did. -/
def clockThereSpec : ChangeSpec := { name := "clockThere", fn := fun _ => fun
  | [d1, d2] => { results := [.lit (.bool true)], args := [d1, d2] }
  | _ => none }
def clockThereRow : OpenClaim := { program := "ytkbcmmkhphfkgaa", sum := "4c84fff9ad0ce87e54e2c1e0586fbbca0ead089ff166793c27e0db06df8902c7", func := "drumline/drumlinelaw8.ClockThere", spec := "clockThere", apart := false }
def ClockThereSaid : Prop := clockThereRow.holds Try.pinned (OpenSpec.ofChange clockThereSpec)

/-- ITS FALSE NEIGHBOUR: 'it returns false'. Refute it at one input. -/
def clockThereWrong : ChangeSpec := { name := "clockThere", fn := fun _ => fun
  | [d1, d2] => { results := [.lit (.bool false)], args := [d1, d2] }
  | _ => none }
def ClockThereWrongFalsely : Prop := clockThereRow.holds Try.pinned (OpenSpec.ofChange clockThereWrong)

/-- 'drumlinelaw8.ClockOrder': WHATEVER THE INPUT: true; the input reads as it did. -/
def clockOrderSpec : ChangeSpec := { name := "clockOrder", fn := fun _ => fun
  | [d1, d2, d3, d4] => { results := [.lit (.bool true)], args := [d1, d2, d3, d4] }
  | _ => none }
def clockOrderRow : OpenClaim := { program := "ytkbcmmkhphfkgaa", sum := "4c84fff9ad0ce87e54e2c1e0586fbbca0ead089ff166793c27e0db06df8902c7", func := "drumline/drumlinelaw8.ClockOrder", spec := "clockOrder", apart := false }
def ClockOrderSaid : Prop := clockOrderRow.holds Try.pinned (OpenSpec.ofChange clockOrderSpec)

/-- ITS FALSE NEIGHBOUR: 'it returns false'. Refute it at one input. -/
def clockOrderWrong : ChangeSpec := { name := "clockOrder", fn := fun _ => fun
  | [d1, d2, d3, d4] => { results := [.lit (.bool false)], args := [d1, d2, d3, d4] }
  | _ => none }
def ClockOrderWrongFalsely : Prop := clockOrderRow.holds Try.pinned (OpenSpec.ofChange clockOrderWrong)

/-- 'drumlinelaw10.GuardTells': WHATEVER THE INPUT: true; the input reads as it did. -/
def guardTellsSpec : ChangeSpec := { name := "guardTells", fn := fun _ => fun
  | [d1, d2, d3, d4, d5] => { results := [.lit (.bool true)], args := [d1, d2, d3, d4, d5] }
  | _ => none }
def guardTellsRow : OpenClaim := { program := "ytkbcmmkhphfkgaa", sum := "4c84fff9ad0ce87e54e2c1e0586fbbca0ead089ff166793c27e0db06df8902c7", func := "drumline/drumlinelaw10.GuardTells", spec := "guardTells", apart := false }
def GuardTellsSaid : Prop := guardTellsRow.holds Try.pinned (OpenSpec.ofChange guardTellsSpec)

/-- ITS FALSE NEIGHBOUR: 'it returns false'. Refute it at one input. -/
def guardTellsWrong : ChangeSpec := { name := "guardTells", fn := fun _ => fun
  | [d1, d2, d3, d4, d5] => { results := [.lit (.bool false)], args := [d1, d2, d3, d4, d5] }
  | _ => none }
def GuardTellsWrongFalsely : Prop := guardTellsRow.holds Try.pinned (OpenSpec.ofChange guardTellsWrong)

/-- 'drumlinelaw10.GuardWindow': WHATEVER THE INPUT: true; the input reads as it did. -/
def guardWindowSpec : ChangeSpec := { name := "guardWindow", fn := fun _ => fun
  | [d1, d2, d3, d4] => { results := [.lit (.bool true)], args := [d1, d2, d3, d4] }
  | _ => none }
def guardWindowRow : OpenClaim := { program := "ytkbcmmkhphfkgaa", sum := "4c84fff9ad0ce87e54e2c1e0586fbbca0ead089ff166793c27e0db06df8902c7", func := "drumline/drumlinelaw10.GuardWindow", spec := "guardWindow", apart := false }
def GuardWindowSaid : Prop := guardWindowRow.holds Try.pinned (OpenSpec.ofChange guardWindowSpec)

/-- ITS FALSE NEIGHBOUR: 'it returns false'. Refute it at one input. -/
def guardWindowWrong : ChangeSpec := { name := "guardWindow", fn := fun _ => fun
  | [d1, d2, d3, d4] => { results := [.lit (.bool false)], args := [d1, d2, d3, d4] }
  | _ => none }
def GuardWindowWrongFalsely : Prop := guardWindowRow.holds Try.pinned (OpenSpec.ofChange guardWindowWrong)

/-- 'drumlinelaw10.GuardShifts': WHATEVER THE INPUT: true; the input reads as it did. -/
def guardShiftsSpec : ChangeSpec := { name := "guardShifts", fn := fun _ => fun
  | [d1, d2, d3, d4, d5] => { results := [.lit (.bool true)], args := [d1, d2, d3, d4, d5] }
  | _ => none }
def guardShiftsRow : OpenClaim := { program := "ytkbcmmkhphfkgaa", sum := "4c84fff9ad0ce87e54e2c1e0586fbbca0ead089ff166793c27e0db06df8902c7", func := "drumline/drumlinelaw10.GuardShifts", spec := "guardShifts", apart := false }
def GuardShiftsSaid : Prop := guardShiftsRow.holds Try.pinned (OpenSpec.ofChange guardShiftsSpec)

/-- ITS FALSE NEIGHBOUR: 'it returns false'. Refute it at one input. -/
def guardShiftsWrong : ChangeSpec := { name := "guardShifts", fn := fun _ => fun
  | [d1, d2, d3, d4, d5] => { results := [.lit (.bool false)], args := [d1, d2, d3, d4, d5] }
  | _ => none }
def GuardShiftsWrongFalsely : Prop := guardShiftsRow.holds Try.pinned (OpenSpec.ofChange guardShiftsWrong)

/-- 'drumlinelaw8.ClockReads': WHATEVER THE INPUT: true; the input reads as it did. -/
def clockReadsSpec : ChangeSpec := { name := "clockReads", fn := fun _ => fun
  | [d1, d2, d3, d4, d5] => { results := [.lit (.bool true)], args := [d1, d2, d3, d4, d5] }
  | _ => none }
def clockReadsRow : OpenClaim := { program := "ytkbcmmkhphfkgaa", sum := "4c84fff9ad0ce87e54e2c1e0586fbbca0ead089ff166793c27e0db06df8902c7", func := "drumline/drumlinelaw8.ClockReads", spec := "clockReads", apart := false }
def ClockReadsSaid : Prop := clockReadsRow.holds Try.pinned (OpenSpec.ofChange clockReadsSpec)

/-- ITS FALSE NEIGHBOUR: 'it returns false'. Refute it at one input. -/
def clockReadsWrong : ChangeSpec := { name := "clockReads", fn := fun _ => fun
  | [d1, d2, d3, d4, d5] => { results := [.lit (.bool false)], args := [d1, d2, d3, d4, d5] }
  | _ => none }
def ClockReadsWrongFalsely : Prop := clockReadsRow.holds Try.pinned (OpenSpec.ofChange clockReadsWrong)

/- THE SECOND FORM. 'bulk': how many values and letters a reading holds, each counted each time it is reached (what is shared counts as often as it is met; a slice's spare places count too). A statement '..UptoSaid' is the law's where the arguments, and the package variables that the reading takes, are together of bulk at most 1048576: NARROWER than '..Said'. Prove '..Said' where nothing that the law and all that it calls make is longer than what came in: it says more and counts as full. Else prove '..UptoSaid'. A law counts once. -/
mutual
def uptoBulk {H : Type} : DataW H → Nat
  | .lit (.string bytes) => bytes.length + 1
  | .lit _ => 1
  | .nil => 1
  | .ptr d => uptoBulk d + 1
  | .slice elems spare => uptoBulkAll elems + uptoBulkAll spare + 1
  | .agg parts => uptoBulkAll parts + 1
  | .iface _ d => uptoBulk d + 1
  | .map entries => uptoBulkEntries entries + 1
  | .held _ => 1
def uptoBulkAll {H : Type} : List (DataW H) → Nat
  | [] => 0
  | d :: r => uptoBulk d + uptoBulkAll r
def uptoBulkEntries {H : Type} : List (Lit × DataW H) → Nat
  | [] => 0
  | x :: r => uptoBulkEntry x + uptoBulkEntries r
def uptoBulkEntry {H : Type} : Lit × DataW H → Nat
  | (.string bytes, d) => bytes.length + uptoBulk d + 1
  | (_, d) => uptoBulk d + 1
 end
def uptoSmall : (H : Type) → List (DataW H) → Bool := fun _ ds => decide (uptoBulkAll ds ≤ 1048576)
def OpenSpec.upto (s : _root_.Go.ChangeSpec) : _root_.Go.OpenSpec := { _root_.Go.OpenSpec.ofChange s with cond := some uptoSmall }

/-- 'drumlinelaw8.ClockTells', WHERE WHAT IT READS IS OF BULK AT MOST 1048576: true; the input reads as it did. -/
def clockTellsUptoRow : OpenClaim := { program := "ytkbcmmkhphfkgaa", sum := "4c84fff9ad0ce87e54e2c1e0586fbbca0ead089ff166793c27e0db06df8902c7", func := "drumline/drumlinelaw8.ClockTells", spec := "clockTells", apart := false, narrowed := true }
def ClockTellsUptoSaid : Prop := clockTellsUptoRow.holds Try.pinned (OpenSpec.upto clockTellsSpec)

/-- 'drumlinelaw8.ClockRounds', WHERE WHAT IT READS IS OF BULK AT MOST 1048576: true; the input reads as it did. -/
def clockRoundsUptoRow : OpenClaim := { program := "ytkbcmmkhphfkgaa", sum := "4c84fff9ad0ce87e54e2c1e0586fbbca0ead089ff166793c27e0db06df8902c7", func := "drumline/drumlinelaw8.ClockRounds", spec := "clockRounds", apart := false, narrowed := true }
def ClockRoundsUptoSaid : Prop := clockRoundsUptoRow.holds Try.pinned (OpenSpec.upto clockRoundsSpec)

/-- 'drumlinelaw8.ClockThere', WHERE WHAT IT READS IS OF BULK AT MOST 1048576: true; the input reads as it did. -/
def clockThereUptoRow : OpenClaim := { program := "ytkbcmmkhphfkgaa", sum := "4c84fff9ad0ce87e54e2c1e0586fbbca0ead089ff166793c27e0db06df8902c7", func := "drumline/drumlinelaw8.ClockThere", spec := "clockThere", apart := false, narrowed := true }
def ClockThereUptoSaid : Prop := clockThereUptoRow.holds Try.pinned (OpenSpec.upto clockThereSpec)

/-- 'drumlinelaw8.ClockOrder', WHERE WHAT IT READS IS OF BULK AT MOST 1048576: true; the input reads as it did. -/
def clockOrderUptoRow : OpenClaim := { program := "ytkbcmmkhphfkgaa", sum := "4c84fff9ad0ce87e54e2c1e0586fbbca0ead089ff166793c27e0db06df8902c7", func := "drumline/drumlinelaw8.ClockOrder", spec := "clockOrder", apart := false, narrowed := true }
def ClockOrderUptoSaid : Prop := clockOrderUptoRow.holds Try.pinned (OpenSpec.upto clockOrderSpec)

/-- 'drumlinelaw10.GuardTells', WHERE WHAT IT READS IS OF BULK AT MOST 1048576: true; the input reads as it did. -/
def guardTellsUptoRow : OpenClaim := { program := "ytkbcmmkhphfkgaa", sum := "4c84fff9ad0ce87e54e2c1e0586fbbca0ead089ff166793c27e0db06df8902c7", func := "drumline/drumlinelaw10.GuardTells", spec := "guardTells", apart := false, narrowed := true }
def GuardTellsUptoSaid : Prop := guardTellsUptoRow.holds Try.pinned (OpenSpec.upto guardTellsSpec)

/-- 'drumlinelaw10.GuardWindow', WHERE WHAT IT READS IS OF BULK AT MOST 1048576: true; the input reads as it did. -/
def guardWindowUptoRow : OpenClaim := { program := "ytkbcmmkhphfkgaa", sum := "4c84fff9ad0ce87e54e2c1e0586fbbca0ead089ff166793c27e0db06df8902c7", func := "drumline/drumlinelaw10.GuardWindow", spec := "guardWindow", apart := false, narrowed := true }
def GuardWindowUptoSaid : Prop := guardWindowUptoRow.holds Try.pinned (OpenSpec.upto guardWindowSpec)

/-- 'drumlinelaw10.GuardShifts', WHERE WHAT IT READS IS OF BULK AT MOST 1048576: true; the input reads as it did. -/
def guardShiftsUptoRow : OpenClaim := { program := "ytkbcmmkhphfkgaa", sum := "4c84fff9ad0ce87e54e2c1e0586fbbca0ead089ff166793c27e0db06df8902c7", func := "drumline/drumlinelaw10.GuardShifts", spec := "guardShifts", apart := false, narrowed := true }
def GuardShiftsUptoSaid : Prop := guardShiftsUptoRow.holds Try.pinned (OpenSpec.upto guardShiftsSpec)

/-- 'drumlinelaw8.ClockReads', WHERE WHAT IT READS IS OF BULK AT MOST 1048576: true; the input reads as it did. -/
def clockReadsUptoRow : OpenClaim := { program := "ytkbcmmkhphfkgaa", sum := "4c84fff9ad0ce87e54e2c1e0586fbbca0ead089ff166793c27e0db06df8902c7", func := "drumline/drumlinelaw8.ClockReads", spec := "clockReads", apart := false, narrowed := true }
def ClockReadsUptoSaid : Prop := clockReadsUptoRow.holds Try.pinned (OpenSpec.upto clockReadsSpec)

end Rows
end Go.Proofs.Ytkbcmmkhphfkgaa
