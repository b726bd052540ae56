/-
  No cell of these rows narrows 'for every input' (looked for: loops, veiled, ifaces, maps, wideKeys, modest, calm, conditions, laid).
  DERIVED. THE GIVEN ROWS OF THIS SEAT. 12 by the template 'for every input the law returns true; each argument reads behind the call as it read before'; 0 by the template 'total and deterministic' (their statements: YtblaoljlcdgemaaTotals.lean).
  GIVEN WITH THE SEED: the statements are not yours to turn. If you find one false, say at which input.
  Laid BY PROGRAM, IN A SANDBOX (cutbox-rows.mjs): the forced cells as the released guide's own fill.sh prints them over the translation 72646ecdc4c08774… (all of the seat's roots in one cut). By AI agents, Wed Nov 11 2026. No macro, syntax, notation, axiom, sorry.
-/
import Derived.Test.YtblaoljlcdgemaaChecked
import GoSem.Claim
import GoSem.ClaimJoined
import GoSem.ClaimMapViews
import Derived.JoinedTies
import Derived.KernelRfl
namespace Go.Proofs.Ytblaoljlcdgemaa
/- THE CELL 'sum', in the pinned program and in every row, IS THE sha256 OF THE DUMP (.gsa) THAT YtblaoljlcdgemaaProg.lean LOADS. Nothing in Lean hashes anything: it is a label: what it is worth is what the hold of that sum in a sandbox is worth. -/
noncomputable def Try.pinned : Pinned := { name := "ytblaoljlcdgemaa", sum := "72646ecdc4c087743bee35c2ea56672569f6ae17c43d7f50188dad14e61e3349", checked := Try.checked }
namespace Rows
def none {H : Type} : Left H := { results := [], args := [] }

/-- 'drumlinelaw1.TicksRounds': WHATEVER THE INPUT: true; the input reads as it did. -/
def ticksRoundsSpec : ChangeSpec := { name := "ticksRounds", fn := fun _ => fun
  | [d1, d2] => { results := [.lit (.bool true)], args := [d1, d2] }
  | _ => none }
def ticksRoundsRow : OpenClaim := { program := "ytblaoljlcdgemaa", sum := "72646ecdc4c087743bee35c2ea56672569f6ae17c43d7f50188dad14e61e3349", func := "drumline/drumlinelaw1.TicksRounds", spec := "ticksRounds", apart := false }
def TicksRoundsSaid : Prop := ticksRoundsRow.holds Try.pinned (OpenSpec.ofChange ticksRoundsSpec)

/-- ITS FALSE NEIGHBOUR: 'it returns false'. Refute it at one input. -/
def ticksRoundsWrong : ChangeSpec := { name := "ticksRounds", fn := fun _ => fun
  | [d1, d2] => { results := [.lit (.bool false)], args := [d1, d2] }
  | _ => none }
def TicksRoundsWrongFalsely : Prop := ticksRoundsRow.holds Try.pinned (OpenSpec.ofChange ticksRoundsWrong)

/-- 'drumlinelaw1.TicksBetween': WHATEVER THE INPUT: true; the input reads as it did. -/
def ticksBetweenSpec : ChangeSpec := { name := "ticksBetween", fn := fun _ => fun
  | [d1, d2] => { results := [.lit (.bool true)], args := [d1, d2] }
  | _ => none }
def ticksBetweenRow : OpenClaim := { program := "ytblaoljlcdgemaa", sum := "72646ecdc4c087743bee35c2ea56672569f6ae17c43d7f50188dad14e61e3349", func := "drumline/drumlinelaw1.TicksBetween", spec := "ticksBetween", apart := false }
def TicksBetweenSaid : Prop := ticksBetweenRow.holds Try.pinned (OpenSpec.ofChange ticksBetweenSpec)

/-- ITS FALSE NEIGHBOUR: 'it returns false'. Refute it at one input. -/
def ticksBetweenWrong : ChangeSpec := { name := "ticksBetween", fn := fun _ => fun
  | [d1, d2] => { results := [.lit (.bool false)], args := [d1, d2] }
  | _ => none }
def TicksBetweenWrongFalsely : Prop := ticksBetweenRow.holds Try.pinned (OpenSpec.ofChange ticksBetweenWrong)

/-- 'drumlinelaw1.TicksScales': WHATEVER THE INPUT: true; the input reads as it did. -/
def ticksScalesSpec : ChangeSpec := { name := "ticksScales", fn := fun _ => fun
  | [d1, d2] => { results := [.lit (.bool true)], args := [d1, d2] }
  | _ => none }
def ticksScalesRow : OpenClaim := { program := "ytblaoljlcdgemaa", sum := "72646ecdc4c087743bee35c2ea56672569f6ae17c43d7f50188dad14e61e3349", func := "drumline/drumlinelaw1.TicksScales", spec := "ticksScales", apart := false }
def TicksScalesSaid : Prop := ticksScalesRow.holds Try.pinned (OpenSpec.ofChange ticksScalesSpec)

/-- ITS FALSE NEIGHBOUR: 'it returns false'. Refute it at one input. -/
def ticksScalesWrong : ChangeSpec := { name := "ticksScales", fn := fun _ => fun
  | [d1, d2] => { results := [.lit (.bool false)], args := [d1, d2] }
  | _ => none }
def TicksScalesWrongFalsely : Prop := ticksScalesRow.holds Try.pinned (OpenSpec.ofChange ticksScalesWrong)

/-- 'drumlinelaw1.TicksApart': WHATEVER THE INPUT: true; the input reads as it did. -/
def ticksApartSpec : ChangeSpec := { name := "ticksApart", fn := fun _ => fun
  | [d1, d2, d3] => { results := [.lit (.bool true)], args := [d1, d2, d3] }
  | _ => none }
def ticksApartRow : OpenClaim := { program := "ytblaoljlcdgemaa", sum := "72646ecdc4c087743bee35c2ea56672569f6ae17c43d7f50188dad14e61e3349", func := "drumline/drumlinelaw1.TicksApart", spec := "ticksApart", apart := false }
def TicksApartSaid : Prop := ticksApartRow.holds Try.pinned (OpenSpec.ofChange ticksApartSpec)

/-- ITS FALSE NEIGHBOUR: 'it returns false'. Refute it at one input. -/
def ticksApartWrong : ChangeSpec := { name := "ticksApart", fn := fun _ => fun
  | [d1, d2, d3] => { results := [.lit (.bool false)], args := [d1, d2, d3] }
  | _ => none }
def TicksApartWrongFalsely : Prop := ticksApartRow.holds Try.pinned (OpenSpec.ofChange ticksApartWrong)

/-- 'drumlinelaw1.TicksHolds': WHATEVER THE INPUT: true; the input reads as it did. -/
def ticksHoldsSpec : ChangeSpec := { name := "ticksHolds", fn := fun _ => fun
  | [d1, d2, d3, d4] => { results := [.lit (.bool true)], args := [d1, d2, d3, d4] }
  | _ => none }
def ticksHoldsRow : OpenClaim := { program := "ytblaoljlcdgemaa", sum := "72646ecdc4c087743bee35c2ea56672569f6ae17c43d7f50188dad14e61e3349", func := "drumline/drumlinelaw1.TicksHolds", spec := "ticksHolds", apart := false }
def TicksHoldsSaid : Prop := ticksHoldsRow.holds Try.pinned (OpenSpec.ofChange ticksHoldsSpec)

/-- ITS FALSE NEIGHBOUR: 'it returns false'. Refute it at one input. -/
def ticksHoldsWrong : ChangeSpec := { name := "ticksHolds", fn := fun _ => fun
  | [d1, d2, d3, d4] => { results := [.lit (.bool false)], args := [d1, d2, d3, d4] }
  | _ => none }
def TicksHoldsWrongFalsely : Prop := ticksHoldsRow.holds Try.pinned (OpenSpec.ofChange ticksHoldsWrong)

/-- 'drumlinelaw1.TicksOrder': WHATEVER THE INPUT: true; the input reads as it did. -/
def ticksOrderSpec : ChangeSpec := { name := "ticksOrder", fn := fun _ => fun
  | [d1, d2, d3, d4] => { results := [.lit (.bool true)], args := [d1, d2, d3, d4] }
  | _ => none }
def ticksOrderRow : OpenClaim := { program := "ytblaoljlcdgemaa", sum := "72646ecdc4c087743bee35c2ea56672569f6ae17c43d7f50188dad14e61e3349", func := "drumline/drumlinelaw1.TicksOrder", spec := "ticksOrder", apart := false }
def TicksOrderSaid : Prop := ticksOrderRow.holds Try.pinned (OpenSpec.ofChange ticksOrderSpec)

/-- ITS FALSE NEIGHBOUR: 'it returns false'. Refute it at one input. -/
def ticksOrderWrong : ChangeSpec := { name := "ticksOrder", fn := fun _ => fun
  | [d1, d2, d3, d4] => { results := [.lit (.bool false)], args := [d1, d2, d3, d4] }
  | _ => none }
def TicksOrderWrongFalsely : Prop := ticksOrderRow.holds Try.pinned (OpenSpec.ofChange ticksOrderWrong)

/-- 'drumlinelaw2.SumMores': WHATEVER THE INPUT: true; the input reads as it did. -/
def sumMoresSpec : ChangeSpec := { name := "sumMores", fn := fun _ => fun
  | [d1, d2] => { results := [.lit (.bool true)], args := [d1, d2] }
  | _ => none }
def sumMoresRow : OpenClaim := { program := "ytblaoljlcdgemaa", sum := "72646ecdc4c087743bee35c2ea56672569f6ae17c43d7f50188dad14e61e3349", func := "drumline/drumlinelaw2.SumMores", spec := "sumMores", apart := false }
def SumMoresSaid : Prop := sumMoresRow.holds Try.pinned (OpenSpec.ofChange sumMoresSpec)

/-- ITS FALSE NEIGHBOUR: 'it returns false'. Refute it at one input. -/
def sumMoresWrong : ChangeSpec := { name := "sumMores", fn := fun _ => fun
  | [d1, d2] => { results := [.lit (.bool false)], args := [d1, d2] }
  | _ => none }
def SumMoresWrongFalsely : Prop := sumMoresRow.holds Try.pinned (OpenSpec.ofChange sumMoresWrong)

/-- 'drumlinelaw2.SumOpens': WHATEVER THE INPUT: true; the input reads as it did. -/
def sumOpensSpec : ChangeSpec := { name := "sumOpens", fn := fun _ => fun
  | [d] => { results := [.lit (.bool true)], args := [d] }
  | _ => none }
def sumOpensRow : OpenClaim := { program := "ytblaoljlcdgemaa", sum := "72646ecdc4c087743bee35c2ea56672569f6ae17c43d7f50188dad14e61e3349", func := "drumline/drumlinelaw2.SumOpens", spec := "sumOpens", apart := false }
def SumOpensSaid : Prop := sumOpensRow.holds Try.pinned (OpenSpec.ofChange sumOpensSpec)

/-- ITS FALSE NEIGHBOUR: 'it returns false'. Refute it at one input. -/
def sumOpensWrong : ChangeSpec := { name := "sumOpens", fn := fun _ => fun
  | [d] => { results := [.lit (.bool false)], args := [d] }
  | _ => none }
def SumOpensWrongFalsely : Prop := sumOpensRow.holds Try.pinned (OpenSpec.ofChange sumOpensWrong)

/-- 'drumlinelaw2.SumParts': WHATEVER THE INPUT: true; the input reads as it did. -/
def sumPartsSpec : ChangeSpec := { name := "sumParts", fn := fun _ => fun
  | [d] => { results := [.lit (.bool true)], args := [d] }
  | _ => none }
def sumPartsRow : OpenClaim := { program := "ytblaoljlcdgemaa", sum := "72646ecdc4c087743bee35c2ea56672569f6ae17c43d7f50188dad14e61e3349", func := "drumline/drumlinelaw2.SumParts", spec := "sumParts", apart := false }
def SumPartsSaid : Prop := sumPartsRow.holds Try.pinned (OpenSpec.ofChange sumPartsSpec)

/-- ITS FALSE NEIGHBOUR: 'it returns false'. Refute it at one input. -/
def sumPartsWrong : ChangeSpec := { name := "sumParts", fn := fun _ => fun
  | [d] => { results := [.lit (.bool false)], args := [d] }
  | _ => none }
def SumPartsWrongFalsely : Prop := sumPartsRow.holds Try.pinned (OpenSpec.ofChange sumPartsWrong)

/-- 'drumlinelaw2.SumBursts': WHATEVER THE INPUT: true; the input reads as it did. -/
def sumBurstsSpec : ChangeSpec := { name := "sumBursts", fn := fun _ => fun
  | [d1, d2, d3] => { results := [.lit (.bool true)], args := [d1, d2, d3] }
  | _ => none }
def sumBurstsRow : OpenClaim := { program := "ytblaoljlcdgemaa", sum := "72646ecdc4c087743bee35c2ea56672569f6ae17c43d7f50188dad14e61e3349", func := "drumline/drumlinelaw2.SumBursts", spec := "sumBursts", apart := false }
def SumBurstsSaid : Prop := sumBurstsRow.holds Try.pinned (OpenSpec.ofChange sumBurstsSpec)

/-- ITS FALSE NEIGHBOUR: 'it returns false'. Refute it at one input. -/
def sumBurstsWrong : ChangeSpec := { name := "sumBursts", fn := fun _ => fun
  | [d1, d2, d3] => { results := [.lit (.bool false)], args := [d1, d2, d3] }
  | _ => none }
def SumBurstsWrongFalsely : Prop := sumBurstsRow.holds Try.pinned (OpenSpec.ofChange sumBurstsWrong)

/-- 'drumlinelaw2.SumMixes': WHATEVER THE INPUT: true; the input reads as it did. -/
def sumMixesSpec : ChangeSpec := { name := "sumMixes", fn := fun _ => fun
  | [d1, d2, d3] => { results := [.lit (.bool true)], args := [d1, d2, d3] }
  | _ => none }
def sumMixesRow : OpenClaim := { program := "ytblaoljlcdgemaa", sum := "72646ecdc4c087743bee35c2ea56672569f6ae17c43d7f50188dad14e61e3349", func := "drumline/drumlinelaw2.SumMixes", spec := "sumMixes", apart := false }
def SumMixesSaid : Prop := sumMixesRow.holds Try.pinned (OpenSpec.ofChange sumMixesSpec)

/-- ITS FALSE NEIGHBOUR: 'it returns false'. Refute it at one input. -/
def sumMixesWrong : ChangeSpec := { name := "sumMixes", fn := fun _ => fun
  | [d1, d2, d3] => { results := [.lit (.bool false)], args := [d1, d2, d3] }
  | _ => none }
def SumMixesWrongFalsely : Prop := sumMixesRow.holds Try.pinned (OpenSpec.ofChange sumMixesWrong)

/-- 'drumlinelaw2.SumTells': WHATEVER THE INPUT: true; the input reads as it did. -/
def sumTellsSpec : ChangeSpec := { name := "sumTells", fn := fun _ => fun
  | [d1, d2, d3] => { results := [.lit (.bool true)], args := [d1, d2, d3] }
  | _ => none }
def sumTellsRow : OpenClaim := { program := "ytblaoljlcdgemaa", sum := "72646ecdc4c087743bee35c2ea56672569f6ae17c43d7f50188dad14e61e3349", func := "drumline/drumlinelaw2.SumTells", spec := "sumTells", apart := false }
def SumTellsSaid : Prop := sumTellsRow.holds Try.pinned (OpenSpec.ofChange sumTellsSpec)

/-- ITS FALSE NEIGHBOUR: 'it returns false'. Refute it at one input. -/
def sumTellsWrong : ChangeSpec := { name := "sumTells", fn := fun _ => fun
  | [d1, d2, d3] => { results := [.lit (.bool false)], args := [d1, d2, d3] }
  | _ => none }
def SumTellsWrongFalsely : Prop := sumTellsRow.holds Try.pinned (OpenSpec.ofChange sumTellsWrong)

/- THE SECOND FORM. 'bulk': how many values and letters a reading holds, each counted each time it is reached (what is shared counts as often as it is met; a slice's spare places count too). A statement '..UptoSaid' is the law's where the arguments, and the package variables that the reading takes, are together of bulk at most 1048576: NARROWER than '..Said'. Prove '..Said' where nothing that the law and all that it calls make is longer than what came in: it says more and counts as full. Else prove '..UptoSaid'. A law counts once. -/
mutual
def uptoBulk {H : Type} : DataW H → Nat
  | .lit (.string bytes) => bytes.length + 1
  | .lit _ => 1
  | .nil => 1
  | .ptr d => uptoBulk d + 1
  | .slice elems spare => uptoBulkAll elems + uptoBulkAll spare + 1
  | .agg parts => uptoBulkAll parts + 1
  | .iface _ d => uptoBulk d + 1
  | .map entries => uptoBulkEntries entries + 1
  | .held _ => 1
def uptoBulkAll {H : Type} : List (DataW H) → Nat
  | [] => 0
  | d :: r => uptoBulk d + uptoBulkAll r
def uptoBulkEntries {H : Type} : List (Lit × DataW H) → Nat
  | [] => 0
  | x :: r => uptoBulkEntry x + uptoBulkEntries r
def uptoBulkEntry {H : Type} : Lit × DataW H → Nat
  | (.string bytes, d) => bytes.length + uptoBulk d + 1
  | (_, d) => uptoBulk d + 1
 end
def uptoSmall : (H : Type) → List (DataW H) → Bool := fun _ ds => decide (uptoBulkAll ds ≤ 1048576)
def OpenSpec.upto (s : _root_.Go.ChangeSpec) : _root_.Go.OpenSpec := { _root_.Go.OpenSpec.ofChange s with cond := some uptoSmall }

/-- 'drumlinelaw1.TicksRounds', WHERE WHAT IT READS IS OF BULK AT MOST 1048576: true; the input reads as it did. -/
def ticksRoundsUptoRow : OpenClaim := { program := "ytblaoljlcdgemaa", sum := "72646ecdc4c087743bee35c2ea56672569f6ae17c43d7f50188dad14e61e3349", func := "drumline/drumlinelaw1.TicksRounds", spec := "ticksRounds", apart := false, narrowed := true }
def TicksRoundsUptoSaid : Prop := ticksRoundsUptoRow.holds Try.pinned (OpenSpec.upto ticksRoundsSpec)

/-- 'drumlinelaw1.TicksBetween', WHERE WHAT IT READS IS OF BULK AT MOST 1048576: true; the input reads as it did. -/
def ticksBetweenUptoRow : OpenClaim := { program := "ytblaoljlcdgemaa", sum := "72646ecdc4c087743bee35c2ea56672569f6ae17c43d7f50188dad14e61e3349", func := "drumline/drumlinelaw1.TicksBetween", spec := "ticksBetween", apart := false, narrowed := true }
def TicksBetweenUptoSaid : Prop := ticksBetweenUptoRow.holds Try.pinned (OpenSpec.upto ticksBetweenSpec)

/-- 'drumlinelaw1.TicksScales', WHERE WHAT IT READS IS OF BULK AT MOST 1048576: true; the input reads as it did. -/
def ticksScalesUptoRow : OpenClaim := { program := "ytblaoljlcdgemaa", sum := "72646ecdc4c087743bee35c2ea56672569f6ae17c43d7f50188dad14e61e3349", func := "drumline/drumlinelaw1.TicksScales", spec := "ticksScales", apart := false, narrowed := true }
def TicksScalesUptoSaid : Prop := ticksScalesUptoRow.holds Try.pinned (OpenSpec.upto ticksScalesSpec)

/-- 'drumlinelaw1.TicksApart', WHERE WHAT IT READS IS OF BULK AT MOST 1048576: true; the input reads as it did. -/
def ticksApartUptoRow : OpenClaim := { program := "ytblaoljlcdgemaa", sum := "72646ecdc4c087743bee35c2ea56672569f6ae17c43d7f50188dad14e61e3349", func := "drumline/drumlinelaw1.TicksApart", spec := "ticksApart", apart := false, narrowed := true }
def TicksApartUptoSaid : Prop := ticksApartUptoRow.holds Try.pinned (OpenSpec.upto ticksApartSpec)

/-- 'drumlinelaw1.TicksHolds', WHERE WHAT IT READS IS OF BULK AT MOST 1048576: true; the input reads as it did. -/
def ticksHoldsUptoRow : OpenClaim := { program := "ytblaoljlcdgemaa", sum := "72646ecdc4c087743bee35c2ea56672569f6ae17c43d7f50188dad14e61e3349", func := "drumline/drumlinelaw1.TicksHolds", spec := "ticksHolds", apart := false, narrowed := true }
def TicksHoldsUptoSaid : Prop := ticksHoldsUptoRow.holds Try.pinned (OpenSpec.upto ticksHoldsSpec)

/-- 'drumlinelaw1.TicksOrder', WHERE WHAT IT READS IS OF BULK AT MOST 1048576: true; the input reads as it did. -/
def ticksOrderUptoRow : OpenClaim := { program := "ytblaoljlcdgemaa", sum := "72646ecdc4c087743bee35c2ea56672569f6ae17c43d7f50188dad14e61e3349", func := "drumline/drumlinelaw1.TicksOrder", spec := "ticksOrder", apart := false, narrowed := true }
def TicksOrderUptoSaid : Prop := ticksOrderUptoRow.holds Try.pinned (OpenSpec.upto ticksOrderSpec)

/-- 'drumlinelaw2.SumMores', WHERE WHAT IT READS IS OF BULK AT MOST 1048576: true; the input reads as it did. -/
def sumMoresUptoRow : OpenClaim := { program := "ytblaoljlcdgemaa", sum := "72646ecdc4c087743bee35c2ea56672569f6ae17c43d7f50188dad14e61e3349", func := "drumline/drumlinelaw2.SumMores", spec := "sumMores", apart := false, narrowed := true }
def SumMoresUptoSaid : Prop := sumMoresUptoRow.holds Try.pinned (OpenSpec.upto sumMoresSpec)

/-- 'drumlinelaw2.SumOpens', WHERE WHAT IT READS IS OF BULK AT MOST 1048576: true; the input reads as it did. -/
def sumOpensUptoRow : OpenClaim := { program := "ytblaoljlcdgemaa", sum := "72646ecdc4c087743bee35c2ea56672569f6ae17c43d7f50188dad14e61e3349", func := "drumline/drumlinelaw2.SumOpens", spec := "sumOpens", apart := false, narrowed := true }
def SumOpensUptoSaid : Prop := sumOpensUptoRow.holds Try.pinned (OpenSpec.upto sumOpensSpec)

/-- 'drumlinelaw2.SumParts', WHERE WHAT IT READS IS OF BULK AT MOST 1048576: true; the input reads as it did. -/
def sumPartsUptoRow : OpenClaim := { program := "ytblaoljlcdgemaa", sum := "72646ecdc4c087743bee35c2ea56672569f6ae17c43d7f50188dad14e61e3349", func := "drumline/drumlinelaw2.SumParts", spec := "sumParts", apart := false, narrowed := true }
def SumPartsUptoSaid : Prop := sumPartsUptoRow.holds Try.pinned (OpenSpec.upto sumPartsSpec)

/-- 'drumlinelaw2.SumBursts', WHERE WHAT IT READS IS OF BULK AT MOST 1048576: true; the input reads as it did. -/
def sumBurstsUptoRow : OpenClaim := { program := "ytblaoljlcdgemaa", sum := "72646ecdc4c087743bee35c2ea56672569f6ae17c43d7f50188dad14e61e3349", func := "drumline/drumlinelaw2.SumBursts", spec := "sumBursts", apart := false, narrowed := true }
def SumBurstsUptoSaid : Prop := sumBurstsUptoRow.holds Try.pinned (OpenSpec.upto sumBurstsSpec)

/-- 'drumlinelaw2.SumMixes', WHERE WHAT IT READS IS OF BULK AT MOST 1048576: true; the input reads as it did. -/
def sumMixesUptoRow : OpenClaim := { program := "ytblaoljlcdgemaa", sum := "72646ecdc4c087743bee35c2ea56672569f6ae17c43d7f50188dad14e61e3349", func := "drumline/drumlinelaw2.SumMixes", spec := "sumMixes", apart := false, narrowed := true }
def SumMixesUptoSaid : Prop := sumMixesUptoRow.holds Try.pinned (OpenSpec.upto sumMixesSpec)

/-- 'drumlinelaw2.SumTells', WHERE WHAT IT READS IS OF BULK AT MOST 1048576: true; the input reads as it did. -/
def sumTellsUptoRow : OpenClaim := { program := "ytblaoljlcdgemaa", sum := "72646ecdc4c087743bee35c2ea56672569f6ae17c43d7f50188dad14e61e3349", func := "drumline/drumlinelaw2.SumTells", spec := "sumTells", apart := false, narrowed := true }
def SumTellsUptoSaid : Prop := sumTellsUptoRow.holds Try.pinned (OpenSpec.upto sumTellsSpec)

end Rows
end Go.Proofs.Ytblaoljlcdgemaa
