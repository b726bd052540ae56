/-
  No cell of these rows narrows 'for every input' (looked for: loops, veiled, ifaces, maps, wideKeys, modest, calm, conditions, laid).
  DERIVED. THE GIVEN ROWS OF THIS SEAT. 11 by the template 'for every input the law returns true; each argument reads behind the call as it read before'; 0 by the template 'total and deterministic' (their statements: YthkagdbabkkomaaTotals.lean).
  GIVEN WITH THE SEED: the statements are not yours to turn. If you find one false, say at which input.
  Laid BY PROGRAM, IN A SANDBOX (cutbox-rows.mjs): the forced cells as the released guide's own fill.sh prints them over the translation 67acc827276ed1a1… (all of the seat's roots in one cut). By AI agents, Wed Nov 11 2026. No macro, syntax, notation, axiom, sorry.
-/
import Derived.Test.YthkagdbabkkomaaChecked
import GoSem.Claim
import GoSem.ClaimJoined
import GoSem.ClaimMapViews
import Derived.JoinedTies
import Derived.KernelRfl
namespace Go.Proofs.Ythkagdbabkkomaa
/- THE CELL 'sum', in the pinned program and in every row, IS THE sha256 OF THE DUMP (.gsa) THAT YthkagdbabkkomaaProg.lean LOADS. Nothing in Lean hashes anything: it is a label: what it is worth is what the hold of that sum in a sandbox is worth. -/
noncomputable def Try.pinned : Pinned := { name := "ythkagdbabkkomaa", sum := "67acc827276ed1a1770f4c146d50f3a640f4f116641fdd047111586357abb564", checked := Try.checked }
namespace Rows
def none {H : Type} : Left H := { results := [], args := [] }

/-- 'drumlinelaw15.AgesGrow': WHATEVER THE INPUT: true; the input reads as it did. -/
def agesGrowSpec : ChangeSpec := { name := "agesGrow", fn := fun _ => fun
  | [d1, d2, d3, d4] => { results := [.lit (.bool true)], args := [d1, d2, d3, d4] }
  | _ => none }
def agesGrowRow : OpenClaim := { program := "ythkagdbabkkomaa", sum := "67acc827276ed1a1770f4c146d50f3a640f4f116641fdd047111586357abb564", func := "drumline/drumlinelaw15.AgesGrow", spec := "agesGrow", apart := false }
def AgesGrowSaid : Prop := agesGrowRow.holds Try.pinned (OpenSpec.ofChange agesGrowSpec)

/-- ITS FALSE NEIGHBOUR: 'it returns false'. Refute it at one input. -/
def agesGrowWrong : ChangeSpec := { name := "agesGrow", fn := fun _ => fun
  | [d1, d2, d3, d4] => { results := [.lit (.bool false)], args := [d1, d2, d3, d4] }
  | _ => none }
def AgesGrowWrongFalsely : Prop := agesGrowRow.holds Try.pinned (OpenSpec.ofChange agesGrowWrong)

/-- 'drumlinelaw15.AgesGone': WHATEVER THE INPUT: true; the input reads as it did. -/
def agesGoneSpec : ChangeSpec := { name := "agesGone", fn := fun _ => fun
  | [d1, d2, d3, d4] => { results := [.lit (.bool true)], args := [d1, d2, d3, d4] }
  | _ => none }
def agesGoneRow : OpenClaim := { program := "ythkagdbabkkomaa", sum := "67acc827276ed1a1770f4c146d50f3a640f4f116641fdd047111586357abb564", func := "drumline/drumlinelaw15.AgesGone", spec := "agesGone", apart := false }
def AgesGoneSaid : Prop := agesGoneRow.holds Try.pinned (OpenSpec.ofChange agesGoneSpec)

/-- ITS FALSE NEIGHBOUR: 'it returns false'. Refute it at one input. -/
def agesGoneWrong : ChangeSpec := { name := "agesGone", fn := fun _ => fun
  | [d1, d2, d3, d4] => { results := [.lit (.bool false)], args := [d1, d2, d3, d4] }
  | _ => none }
def AgesGoneWrongFalsely : Prop := agesGoneRow.holds Try.pinned (OpenSpec.ofChange agesGoneWrong)

/-- 'drumlinelaw15.AgesRoot': WHATEVER THE INPUT: true; the input reads as it did. -/
def agesRootSpec : ChangeSpec := { name := "agesRoot", fn := fun _ => fun
  | [d1, d2, d3, d4] => { results := [.lit (.bool true)], args := [d1, d2, d3, d4] }
  | _ => none }
def agesRootRow : OpenClaim := { program := "ythkagdbabkkomaa", sum := "67acc827276ed1a1770f4c146d50f3a640f4f116641fdd047111586357abb564", func := "drumline/drumlinelaw15.AgesRoot", spec := "agesRoot", apart := false }
def AgesRootSaid : Prop := agesRootRow.holds Try.pinned (OpenSpec.ofChange agesRootSpec)

/-- ITS FALSE NEIGHBOUR: 'it returns false'. Refute it at one input. -/
def agesRootWrong : ChangeSpec := { name := "agesRoot", fn := fun _ => fun
  | [d1, d2, d3, d4] => { results := [.lit (.bool false)], args := [d1, d2, d3, d4] }
  | _ => none }
def AgesRootWrongFalsely : Prop := agesRootRow.holds Try.pinned (OpenSpec.ofChange agesRootWrong)

/-- 'drumlinelaw15.AgesOrder': WHATEVER THE INPUT: true; the input reads as it did. -/
def agesOrderSpec : ChangeSpec := { name := "agesOrder", fn := fun _ => fun
  | [d1, d2, d3, d4, d5] => { results := [.lit (.bool true)], args := [d1, d2, d3, d4, d5] }
  | _ => none }
def agesOrderRow : OpenClaim := { program := "ythkagdbabkkomaa", sum := "67acc827276ed1a1770f4c146d50f3a640f4f116641fdd047111586357abb564", func := "drumline/drumlinelaw15.AgesOrder", spec := "agesOrder", apart := false }
def AgesOrderSaid : Prop := agesOrderRow.holds Try.pinned (OpenSpec.ofChange agesOrderSpec)

/-- ITS FALSE NEIGHBOUR: 'it returns false'. Refute it at one input. -/
def agesOrderWrong : ChangeSpec := { name := "agesOrder", fn := fun _ => fun
  | [d1, d2, d3, d4, d5] => { results := [.lit (.bool false)], args := [d1, d2, d3, d4, d5] }
  | _ => none }
def AgesOrderWrongFalsely : Prop := agesOrderRow.holds Try.pinned (OpenSpec.ofChange agesOrderWrong)

/-- 'drumlinelaw15.AgesTells': WHATEVER THE INPUT: true; the input reads as it did. -/
def agesTellsSpec : ChangeSpec := { name := "agesTells", fn := fun _ => fun
  | [d1, d2, d3, d4] => { results := [.lit (.bool true)], args := [d1, d2, d3, d4] }
  | _ => none }
def agesTellsRow : OpenClaim := { program := "ythkagdbabkkomaa", sum := "67acc827276ed1a1770f4c146d50f3a640f4f116641fdd047111586357abb564", func := "drumline/drumlinelaw15.AgesTells", spec := "agesTells", apart := false }
def AgesTellsSaid : Prop := agesTellsRow.holds Try.pinned (OpenSpec.ofChange agesTellsSpec)

/-- ITS FALSE NEIGHBOUR: 'it returns false'. Refute it at one input. -/
def agesTellsWrong : ChangeSpec := { name := "agesTells", fn := fun _ => fun
  | [d1, d2, d3, d4] => { results := [.lit (.bool false)], args := [d1, d2, d3, d4] }
  | _ => none }
def AgesTellsWrongFalsely : Prop := agesTellsRow.holds Try.pinned (OpenSpec.ofChange agesTellsWrong)

/-- 'drumlinelaw3.WirePlain': WHATEVER THE INPUT: true; the input reads as it did. -/
def wirePlainSpec : ChangeSpec := { name := "wirePlain", fn := fun _ => fun
  | [d1, d2, d3] => { results := [.lit (.bool true)], args := [d1, d2, d3] }
  | _ => none }
def wirePlainRow : OpenClaim := { program := "ythkagdbabkkomaa", sum := "67acc827276ed1a1770f4c146d50f3a640f4f116641fdd047111586357abb564", func := "drumline/drumlinelaw3.WirePlain", spec := "wirePlain", apart := false }
def WirePlainSaid : Prop := wirePlainRow.holds Try.pinned (OpenSpec.ofChange wirePlainSpec)

/-- ITS FALSE NEIGHBOUR: 'it returns false'. Refute it at one input. -/
def wirePlainWrong : ChangeSpec := { name := "wirePlain", fn := fun _ => fun
  | [d1, d2, d3] => { results := [.lit (.bool false)], args := [d1, d2, d3] }
  | _ => none }
def WirePlainWrongFalsely : Prop := wirePlainRow.holds Try.pinned (OpenSpec.ofChange wirePlainWrong)

/-- 'drumlinelaw3.WireParts': WHATEVER THE INPUT: true; the input reads as it did. -/
def wirePartsSpec : ChangeSpec := { name := "wireParts", fn := fun _ => fun
  | [d1, d2] => { results := [.lit (.bool true)], args := [d1, d2] }
  | _ => none }
def wirePartsRow : OpenClaim := { program := "ythkagdbabkkomaa", sum := "67acc827276ed1a1770f4c146d50f3a640f4f116641fdd047111586357abb564", func := "drumline/drumlinelaw3.WireParts", spec := "wireParts", apart := false }
def WirePartsSaid : Prop := wirePartsRow.holds Try.pinned (OpenSpec.ofChange wirePartsSpec)

/-- ITS FALSE NEIGHBOUR: 'it returns false'. Refute it at one input. -/
def wirePartsWrong : ChangeSpec := { name := "wireParts", fn := fun _ => fun
  | [d1, d2] => { results := [.lit (.bool false)], args := [d1, d2] }
  | _ => none }
def WirePartsWrongFalsely : Prop := wirePartsRow.holds Try.pinned (OpenSpec.ofChange wirePartsWrong)

/-- 'drumlinelaw3.WireOrder': WHATEVER THE INPUT: true; the input reads as it did. -/
def wireOrderSpec : ChangeSpec := { name := "wireOrder", fn := fun _ => fun
  | [d1, d2, d3] => { results := [.lit (.bool true)], args := [d1, d2, d3] }
  | _ => none }
def wireOrderRow : OpenClaim := { program := "ythkagdbabkkomaa", sum := "67acc827276ed1a1770f4c146d50f3a640f4f116641fdd047111586357abb564", func := "drumline/drumlinelaw3.WireOrder", spec := "wireOrder", apart := false }
def WireOrderSaid : Prop := wireOrderRow.holds Try.pinned (OpenSpec.ofChange wireOrderSpec)

/-- ITS FALSE NEIGHBOUR: 'it returns false'. Refute it at one input. -/
def wireOrderWrong : ChangeSpec := { name := "wireOrder", fn := fun _ => fun
  | [d1, d2, d3] => { results := [.lit (.bool false)], args := [d1, d2, d3] }
  | _ => none }
def WireOrderWrongFalsely : Prop := wireOrderRow.holds Try.pinned (OpenSpec.ofChange wireOrderWrong)

/-- 'drumlinelaw3.WireSigned': WHATEVER THE INPUT: true; the input reads as it did. -/
def wireSignedSpec : ChangeSpec := { name := "wireSigned", fn := fun _ => fun
  | [d1, d2, d3] => { results := [.lit (.bool true)], args := [d1, d2, d3] }
  | _ => none }
def wireSignedRow : OpenClaim := { program := "ythkagdbabkkomaa", sum := "67acc827276ed1a1770f4c146d50f3a640f4f116641fdd047111586357abb564", func := "drumline/drumlinelaw3.WireSigned", spec := "wireSigned", apart := false }
def WireSignedSaid : Prop := wireSignedRow.holds Try.pinned (OpenSpec.ofChange wireSignedSpec)

/-- ITS FALSE NEIGHBOUR: 'it returns false'. Refute it at one input. -/
def wireSignedWrong : ChangeSpec := { name := "wireSigned", fn := fun _ => fun
  | [d1, d2, d3] => { results := [.lit (.bool false)], args := [d1, d2, d3] }
  | _ => none }
def WireSignedWrongFalsely : Prop := wireSignedRow.holds Try.pinned (OpenSpec.ofChange wireSignedWrong)

/-- 'drumlinelaw3.WireBack': WHATEVER THE INPUT: true; the input reads as it did. -/
def wireBackSpec : ChangeSpec := { name := "wireBack", fn := fun _ => fun
  | [d] => { results := [.lit (.bool true)], args := [d] }
  | _ => none }
def wireBackRow : OpenClaim := { program := "ythkagdbabkkomaa", sum := "67acc827276ed1a1770f4c146d50f3a640f4f116641fdd047111586357abb564", func := "drumline/drumlinelaw3.WireBack", spec := "wireBack", apart := false }
def WireBackSaid : Prop := wireBackRow.holds Try.pinned (OpenSpec.ofChange wireBackSpec)

/-- ITS FALSE NEIGHBOUR: 'it returns false'. Refute it at one input. -/
def wireBackWrong : ChangeSpec := { name := "wireBack", fn := fun _ => fun
  | [d] => { results := [.lit (.bool false)], args := [d] }
  | _ => none }
def WireBackWrongFalsely : Prop := wireBackRow.holds Try.pinned (OpenSpec.ofChange wireBackWrong)

/-- 'drumlinelaw3.WireReads': WHATEVER THE INPUT: true; the input reads as it did. -/
def wireReadsSpec : ChangeSpec := { name := "wireReads", fn := fun _ => fun
  | [d1, d2] => { results := [.lit (.bool true)], args := [d1, d2] }
  | _ => none }
def wireReadsRow : OpenClaim := { program := "ythkagdbabkkomaa", sum := "67acc827276ed1a1770f4c146d50f3a640f4f116641fdd047111586357abb564", func := "drumline/drumlinelaw3.WireReads", spec := "wireReads", apart := false }
def WireReadsSaid : Prop := wireReadsRow.holds Try.pinned (OpenSpec.ofChange wireReadsSpec)

/-- ITS FALSE NEIGHBOUR: 'it returns false'. Refute it at one input. -/
def wireReadsWrong : ChangeSpec := { name := "wireReads", fn := fun _ => fun
  | [d1, d2] => { results := [.lit (.bool false)], args := [d1, d2] }
  | _ => none }
def WireReadsWrongFalsely : Prop := wireReadsRow.holds Try.pinned (OpenSpec.ofChange wireReadsWrong)

/- THE SECOND FORM. 'bulk': how many values and letters a reading holds, each counted each time it is reached (what is shared counts as often as it is met; a slice's spare places count too). A statement '..UptoSaid' is the law's where the arguments, and the package variables that the reading takes, are together of bulk at most 1048576: NARROWER than '..Said'. Prove '..Said' where nothing that the law and all that it calls make is longer than what came in: it says more and counts as full. Else prove '..UptoSaid'. A law counts once. -/
mutual
def uptoBulk {H : Type} : DataW H → Nat
  | .lit (.string bytes) => bytes.length + 1
  | .lit _ => 1
  | .nil => 1
  | .ptr d => uptoBulk d + 1
  | .slice elems spare => uptoBulkAll elems + uptoBulkAll spare + 1
  | .agg parts => uptoBulkAll parts + 1
  | .iface _ d => uptoBulk d + 1
  | .map entries => uptoBulkEntries entries + 1
  | .held _ => 1
def uptoBulkAll {H : Type} : List (DataW H) → Nat
  | [] => 0
  | d :: r => uptoBulk d + uptoBulkAll r
def uptoBulkEntries {H : Type} : List (Lit × DataW H) → Nat
  | [] => 0
  | x :: r => uptoBulkEntry x + uptoBulkEntries r
def uptoBulkEntry {H : Type} : Lit × DataW H → Nat
  | (.string bytes, d) => bytes.length + uptoBulk d + 1
  | (_, d) => uptoBulk d + 1
 end
def uptoSmall : (H : Type) → List (DataW H) → Bool := fun _ ds => decide (uptoBulkAll ds ≤ 1048576)
def OpenSpec.upto (s : _root_.Go.ChangeSpec) : _root_.Go.OpenSpec := { _root_.Go.OpenSpec.ofChange s with cond := some uptoSmall }

/-- 'drumlinelaw15.AgesGrow', WHERE WHAT IT READS IS OF BULK AT MOST 1048576: true; the input reads as it did. -/
def agesGrowUptoRow : OpenClaim := { program := "ythkagdbabkkomaa", sum := "67acc827276ed1a1770f4c146d50f3a640f4f116641fdd047111586357abb564", func := "drumline/drumlinelaw15.AgesGrow", spec := "agesGrow", apart := false, narrowed := true }
def AgesGrowUptoSaid : Prop := agesGrowUptoRow.holds Try.pinned (OpenSpec.upto agesGrowSpec)

/-- 'drumlinelaw15.AgesGone', WHERE WHAT IT READS IS OF BULK AT MOST 1048576: true; the input reads as it did. -/
def agesGoneUptoRow : OpenClaim := { program := "ythkagdbabkkomaa", sum := "67acc827276ed1a1770f4c146d50f3a640f4f116641fdd047111586357abb564", func := "drumline/drumlinelaw15.AgesGone", spec := "agesGone", apart := false, narrowed := true }
def AgesGoneUptoSaid : Prop := agesGoneUptoRow.holds Try.pinned (OpenSpec.upto agesGoneSpec)

/-- 'drumlinelaw15.AgesRoot', WHERE WHAT IT READS IS OF BULK AT MOST 1048576: true; the input reads as it did. -/
def agesRootUptoRow : OpenClaim := { program := "ythkagdbabkkomaa", sum := "67acc827276ed1a1770f4c146d50f3a640f4f116641fdd047111586357abb564", func := "drumline/drumlinelaw15.AgesRoot", spec := "agesRoot", apart := false, narrowed := true }
def AgesRootUptoSaid : Prop := agesRootUptoRow.holds Try.pinned (OpenSpec.upto agesRootSpec)

/-- 'drumlinelaw15.AgesOrder', WHERE WHAT IT READS IS OF BULK AT MOST 1048576: true; the input reads as it did. -/
def agesOrderUptoRow : OpenClaim := { program := "ythkagdbabkkomaa", sum := "67acc827276ed1a1770f4c146d50f3a640f4f116641fdd047111586357abb564", func := "drumline/drumlinelaw15.AgesOrder", spec := "agesOrder", apart := false, narrowed := true }
def AgesOrderUptoSaid : Prop := agesOrderUptoRow.holds Try.pinned (OpenSpec.upto agesOrderSpec)

/-- 'drumlinelaw15.AgesTells', WHERE WHAT IT READS IS OF BULK AT MOST 1048576: true; the input reads as it did. -/
def agesTellsUptoRow : OpenClaim := { program := "ythkagdbabkkomaa", sum := "67acc827276ed1a1770f4c146d50f3a640f4f116641fdd047111586357abb564", func := "drumline/drumlinelaw15.AgesTells", spec := "agesTells", apart := false, narrowed := true }
def AgesTellsUptoSaid : Prop := agesTellsUptoRow.holds Try.pinned (OpenSpec.upto agesTellsSpec)

/-- 'drumlinelaw3.WirePlain', WHERE WHAT IT READS IS OF BULK AT MOST 1048576: true; the input reads as it did. -/
def wirePlainUptoRow : OpenClaim := { program := "ythkagdbabkkomaa", sum := "67acc827276ed1a1770f4c146d50f3a640f4f116641fdd047111586357abb564", func := "drumline/drumlinelaw3.WirePlain", spec := "wirePlain", apart := false, narrowed := true }
def WirePlainUptoSaid : Prop := wirePlainUptoRow.holds Try.pinned (OpenSpec.upto wirePlainSpec)

/-- 'drumlinelaw3.WireParts', WHERE WHAT IT READS IS OF BULK AT MOST 1048576: true; the input reads as it did. -/
def wirePartsUptoRow : OpenClaim := { program := "ythkagdbabkkomaa", sum := "67acc827276ed1a1770f4c146d50f3a640f4f116641fdd047111586357abb564", func := "drumline/drumlinelaw3.WireParts", spec := "wireParts", apart := false, narrowed := true }
def WirePartsUptoSaid : Prop := wirePartsUptoRow.holds Try.pinned (OpenSpec.upto wirePartsSpec)

/-- 'drumlinelaw3.WireOrder', WHERE WHAT IT READS IS OF BULK AT MOST 1048576: true; the input reads as it did. -/
def wireOrderUptoRow : OpenClaim := { program := "ythkagdbabkkomaa", sum := "67acc827276ed1a1770f4c146d50f3a640f4f116641fdd047111586357abb564", func := "drumline/drumlinelaw3.WireOrder", spec := "wireOrder", apart := false, narrowed := true }
def WireOrderUptoSaid : Prop := wireOrderUptoRow.holds Try.pinned (OpenSpec.upto wireOrderSpec)

/-- 'drumlinelaw3.WireSigned', WHERE WHAT IT READS IS OF BULK AT MOST 1048576: true; the input reads as it did. -/
def wireSignedUptoRow : OpenClaim := { program := "ythkagdbabkkomaa", sum := "67acc827276ed1a1770f4c146d50f3a640f4f116641fdd047111586357abb564", func := "drumline/drumlinelaw3.WireSigned", spec := "wireSigned", apart := false, narrowed := true }
def WireSignedUptoSaid : Prop := wireSignedUptoRow.holds Try.pinned (OpenSpec.upto wireSignedSpec)

/-- 'drumlinelaw3.WireBack', WHERE WHAT IT READS IS OF BULK AT MOST 1048576: true; the input reads as it did. -/
def wireBackUptoRow : OpenClaim := { program := "ythkagdbabkkomaa", sum := "67acc827276ed1a1770f4c146d50f3a640f4f116641fdd047111586357abb564", func := "drumline/drumlinelaw3.WireBack", spec := "wireBack", apart := false, narrowed := true }
def WireBackUptoSaid : Prop := wireBackUptoRow.holds Try.pinned (OpenSpec.upto wireBackSpec)

/-- 'drumlinelaw3.WireReads', WHERE WHAT IT READS IS OF BULK AT MOST 1048576: true; the input reads as it did. -/
def wireReadsUptoRow : OpenClaim := { program := "ythkagdbabkkomaa", sum := "67acc827276ed1a1770f4c146d50f3a640f4f116641fdd047111586357abb564", func := "drumline/drumlinelaw3.WireReads", spec := "wireReads", apart := false, narrowed := true }
def WireReadsUptoSaid : Prop := wireReadsUptoRow.holds Try.pinned (OpenSpec.upto wireReadsSpec)

end Rows
end Go.Proofs.Ythkagdbabkkomaa
