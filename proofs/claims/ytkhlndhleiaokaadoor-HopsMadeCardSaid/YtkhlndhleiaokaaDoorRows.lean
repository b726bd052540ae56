/-
  NARROWER THAN 'FOR EVERY INPUT', by the rows' own cells (each row's printed sentence says how): HopsTells: laid · HopsMade: laid · HopsSteps: laid · HopsWays: laid · ClockApart: laid · GuardRight: laid · ClockTick: laid.
  DERIVED. THE GIVEN ROWS OF THIS SEAT. 7 by the template 'for every input the law returns true; each argument reads behind the call as it read before'; 0 by the template 'total and deterministic' (their statements: YtkhlndhleiaokaaDoorTotals.lean).
  GIVEN WITH THE SEED: the statements are not yours to turn. If you find one false, say at which input.
  Laid BY PROGRAM, IN A SANDBOX (cutbox-rows.mjs): the forced cells as the released guide's own fill.sh prints them over the translation 5597bbe4c9ed0dd9… (all of the seat's roots in one cut). By AI agents, Wed Nov 11 2026. No macro, syntax, notation, axiom, sorry.
-/
import Derived.Test.YtkhlndhleiaokaaDoorChecked
import GoSem.Claim
import GoSem.ClaimJoined
import GoSem.ClaimMapViews
import Derived.JoinedTies
import Derived.KernelRfl
namespace Go.Proofs.YtkhlndhleiaokaaDoor
/- THE CELL 'sum', in the pinned program and in every row, IS THE sha256 OF THE DUMP (.gsa) THAT YtkhlndhleiaokaaDoorProg.lean LOADS. Nothing in Lean hashes anything: it is a label: what it is worth is what the hold of that sum in a sandbox is worth. -/
noncomputable def Tryd.pinned : Pinned := { name := "ytkhlndhleiaokaadoor", sum := "5597bbe4c9ed0dd9f269e41859d069ee7755cc3dca93e4c0869690aaac904fb2", checked := Tryd.checked }
namespace Rows
def none {H : Type} : Left H := { results := [], args := [] }

/- WHAT THE LISTED PACKAGE-LEVEL VARIABLES READ AS WHEN THE CALL BEGINS. Each datum BY PROGRAM (the guide's laid-datum.mjs) off the statement by which the dump's own 'gosem.cut.vars' lays the variable. In a bare row this is a premise. The card (YtkhlndhleiaokaaDoorCards.lean) ties it to the program's text. -/
def laid_errors_errorType {H : Type} : DataW H := .iface "internal/reflectlite.rtype" (.agg [.ptr (.lit (.string [101, 114, 114, 111, 114]))])

/-- 'drumlinelaw6.HopsTells': WHATEVER THE INPUT: true; the input reads as it did. -/
def hopsTellsSpec : ChangeSpec := { name := "hopsTells", fn := fun _ => fun
  | [d1, d2, d3] => { results := [.lit (.bool true)], args := [d1, d2, d3] }
  | _ => none }
def hopsTellsRow : OpenClaim := { program := "ytkhlndhleiaokaadoor", sum := "5597bbe4c9ed0dd9f269e41859d069ee7755cc3dca93e4c0869690aaac904fb2", func := "drumline/drumlinelaw6.HopsTells", spec := "hopsTells", inPlace := ["internal/reflectlite.ValueOf", "(internal/reflectlite.Value).Type", "(internal/reflectlite.Value).IsNil", "internal/reflectlite.TypeOf", "(internal/reflectlite.Value).Elem", "(internal/reflectlite.Value).Set"], unfollowed := true, recurses := true, named := ["errors.errorType"], apart := false, laid := [("errors.errorType", laid_errors_errorType)] }
def HopsTellsSaid : Prop := hopsTellsRow.holds Tryd.pinned (OpenSpec.ofChange hopsTellsSpec)

/-- ITS FALSE NEIGHBOUR: 'it returns false'. Refute it at one input. -/
def hopsTellsWrong : ChangeSpec := { name := "hopsTells", fn := fun _ => fun
  | [d1, d2, d3] => { results := [.lit (.bool false)], args := [d1, d2, d3] }
  | _ => none }
def HopsTellsWrongFalsely : Prop := hopsTellsRow.holds Tryd.pinned (OpenSpec.ofChange hopsTellsWrong)

/-- 'drumlinelaw6.HopsMade': WHATEVER THE INPUT: true; the input reads as it did. -/
def hopsMadeSpec : ChangeSpec := { name := "hopsMade", fn := fun _ => fun
  | [d1, d2, d3] => { results := [.lit (.bool true)], args := [d1, d2, d3] }
  | _ => none }
def hopsMadeRow : OpenClaim := { program := "ytkhlndhleiaokaadoor", sum := "5597bbe4c9ed0dd9f269e41859d069ee7755cc3dca93e4c0869690aaac904fb2", func := "drumline/drumlinelaw6.HopsMade", spec := "hopsMade", inPlace := ["internal/reflectlite.ValueOf", "(internal/reflectlite.Value).Type", "(internal/reflectlite.Value).IsNil", "internal/reflectlite.TypeOf", "(internal/reflectlite.Value).Elem", "(internal/reflectlite.Value).Set"], unfollowed := true, recurses := true, named := ["errors.errorType"], apart := false, laid := [("errors.errorType", laid_errors_errorType)] }
def HopsMadeSaid : Prop := hopsMadeRow.holds Tryd.pinned (OpenSpec.ofChange hopsMadeSpec)

/-- ITS FALSE NEIGHBOUR: 'it returns false'. Refute it at one input. -/
def hopsMadeWrong : ChangeSpec := { name := "hopsMade", fn := fun _ => fun
  | [d1, d2, d3] => { results := [.lit (.bool false)], args := [d1, d2, d3] }
  | _ => none }
def HopsMadeWrongFalsely : Prop := hopsMadeRow.holds Tryd.pinned (OpenSpec.ofChange hopsMadeWrong)

/-- 'drumlinelaw6.HopsSteps': WHATEVER THE INPUT: true; the input reads as it did. -/
def hopsStepsSpec : ChangeSpec := { name := "hopsSteps", fn := fun _ => fun
  | [d1, d2, d3] => { results := [.lit (.bool true)], args := [d1, d2, d3] }
  | _ => none }
def hopsStepsRow : OpenClaim := { program := "ytkhlndhleiaokaadoor", sum := "5597bbe4c9ed0dd9f269e41859d069ee7755cc3dca93e4c0869690aaac904fb2", func := "drumline/drumlinelaw6.HopsSteps", spec := "hopsSteps", inPlace := ["internal/reflectlite.ValueOf", "(internal/reflectlite.Value).Type", "(internal/reflectlite.Value).IsNil", "internal/reflectlite.TypeOf", "(internal/reflectlite.Value).Elem", "(internal/reflectlite.Value).Set"], unfollowed := true, recurses := true, named := ["errors.errorType"], apart := false, laid := [("errors.errorType", laid_errors_errorType)] }
def HopsStepsSaid : Prop := hopsStepsRow.holds Tryd.pinned (OpenSpec.ofChange hopsStepsSpec)

/-- ITS FALSE NEIGHBOUR: 'it returns false'. Refute it at one input. -/
def hopsStepsWrong : ChangeSpec := { name := "hopsSteps", fn := fun _ => fun
  | [d1, d2, d3] => { results := [.lit (.bool false)], args := [d1, d2, d3] }
  | _ => none }
def HopsStepsWrongFalsely : Prop := hopsStepsRow.holds Tryd.pinned (OpenSpec.ofChange hopsStepsWrong)

/-- 'drumlinelaw6.HopsWays': WHATEVER THE INPUT: true; the input reads as it did. -/
def hopsWaysSpec : ChangeSpec := { name := "hopsWays", fn := fun _ => fun
  | [d1, d2, d3, d4] => { results := [.lit (.bool true)], args := [d1, d2, d3, d4] }
  | _ => none }
def hopsWaysRow : OpenClaim := { program := "ytkhlndhleiaokaadoor", sum := "5597bbe4c9ed0dd9f269e41859d069ee7755cc3dca93e4c0869690aaac904fb2", func := "drumline/drumlinelaw6.HopsWays", spec := "hopsWays", inPlace := ["internal/reflectlite.ValueOf", "(internal/reflectlite.Value).Type", "(internal/reflectlite.Value).IsNil", "internal/reflectlite.TypeOf", "(internal/reflectlite.Value).Elem", "(internal/reflectlite.Value).Set"], unfollowed := true, recurses := true, named := ["errors.errorType"], apart := false, laid := [("errors.errorType", laid_errors_errorType)] }
def HopsWaysSaid : Prop := hopsWaysRow.holds Tryd.pinned (OpenSpec.ofChange hopsWaysSpec)

/-- ITS FALSE NEIGHBOUR: 'it returns false'. Refute it at one input. -/
def hopsWaysWrong : ChangeSpec := { name := "hopsWays", fn := fun _ => fun
  | [d1, d2, d3, d4] => { results := [.lit (.bool false)], args := [d1, d2, d3, d4] }
  | _ => none }
def HopsWaysWrongFalsely : Prop := hopsWaysRow.holds Tryd.pinned (OpenSpec.ofChange hopsWaysWrong)

/-- 'drumlinelaw8.ClockApart': WHATEVER THE INPUT: true; the input reads as it did. -/
def clockApartSpec : ChangeSpec := { name := "clockApart", fn := fun _ => fun
  | [d1, d2, d3, d4, d5] => { results := [.lit (.bool true)], args := [d1, d2, d3, d4, d5] }
  | _ => none }
def clockApartRow : OpenClaim := { program := "ytkhlndhleiaokaadoor", sum := "5597bbe4c9ed0dd9f269e41859d069ee7755cc3dca93e4c0869690aaac904fb2", func := "drumline/drumlinelaw8.ClockApart", spec := "clockApart", inPlace := ["internal/reflectlite.ValueOf", "(internal/reflectlite.Value).Type", "(internal/reflectlite.Value).IsNil", "internal/reflectlite.TypeOf", "(internal/reflectlite.Value).Elem", "(internal/reflectlite.Value).Set"], unfollowed := true, recurses := true, named := ["errors.errorType"], apart := false, laid := [("errors.errorType", laid_errors_errorType)] }
def ClockApartSaid : Prop := clockApartRow.holds Tryd.pinned (OpenSpec.ofChange clockApartSpec)

/-- ITS FALSE NEIGHBOUR: 'it returns false'. Refute it at one input. -/
def clockApartWrong : ChangeSpec := { name := "clockApart", fn := fun _ => fun
  | [d1, d2, d3, d4, d5] => { results := [.lit (.bool false)], args := [d1, d2, d3, d4, d5] }
  | _ => none }
def ClockApartWrongFalsely : Prop := clockApartRow.holds Tryd.pinned (OpenSpec.ofChange clockApartWrong)

/-- 'drumlinelaw10.GuardRight': WHATEVER THE INPUT: true; the input reads as it did. -/
def guardRightSpec : ChangeSpec := { name := "guardRight", fn := fun _ => fun
  | [d1, d2, d3, d4, d5, d6] => { results := [.lit (.bool true)], args := [d1, d2, d3, d4, d5, d6] }
  | _ => none }
def guardRightRow : OpenClaim := { program := "ytkhlndhleiaokaadoor", sum := "5597bbe4c9ed0dd9f269e41859d069ee7755cc3dca93e4c0869690aaac904fb2", func := "drumline/drumlinelaw10.GuardRight", spec := "guardRight", inPlace := ["internal/reflectlite.ValueOf", "(internal/reflectlite.Value).Type", "(internal/reflectlite.Value).IsNil", "internal/reflectlite.TypeOf", "(internal/reflectlite.Value).Elem", "(internal/reflectlite.Value).Set"], unfollowed := true, recurses := true, named := ["errors.errorType"], apart := false, laid := [("errors.errorType", laid_errors_errorType)] }
def GuardRightSaid : Prop := guardRightRow.holds Tryd.pinned (OpenSpec.ofChange guardRightSpec)

/-- ITS FALSE NEIGHBOUR: 'it returns false'. Refute it at one input. -/
def guardRightWrong : ChangeSpec := { name := "guardRight", fn := fun _ => fun
  | [d1, d2, d3, d4, d5, d6] => { results := [.lit (.bool false)], args := [d1, d2, d3, d4, d5, d6] }
  | _ => none }
def GuardRightWrongFalsely : Prop := guardRightRow.holds Tryd.pinned (OpenSpec.ofChange guardRightWrong)

/-- 'drumlinelaw8.ClockTick': WHATEVER THE INPUT: true; the input reads as it did. -/
def clockTickSpec : ChangeSpec := { name := "clockTick", fn := fun _ => fun
  | [d1, d2, d3, d4, d5] => { results := [.lit (.bool true)], args := [d1, d2, d3, d4, d5] }
  | _ => none }
def clockTickRow : OpenClaim := { program := "ytkhlndhleiaokaadoor", sum := "5597bbe4c9ed0dd9f269e41859d069ee7755cc3dca93e4c0869690aaac904fb2", func := "drumline/drumlinelaw8.ClockTick", spec := "clockTick", inPlace := ["internal/reflectlite.ValueOf", "(internal/reflectlite.Value).Type", "(internal/reflectlite.Value).IsNil", "internal/reflectlite.TypeOf", "(internal/reflectlite.Value).Elem", "(internal/reflectlite.Value).Set"], unfollowed := true, recurses := true, named := ["errors.errorType"], apart := false, laid := [("errors.errorType", laid_errors_errorType)] }
def ClockTickSaid : Prop := clockTickRow.holds Tryd.pinned (OpenSpec.ofChange clockTickSpec)

/-- ITS FALSE NEIGHBOUR: 'it returns false'. Refute it at one input. -/
def clockTickWrong : ChangeSpec := { name := "clockTick", fn := fun _ => fun
  | [d1, d2, d3, d4, d5] => { results := [.lit (.bool false)], args := [d1, d2, d3, d4, d5] }
  | _ => none }
def ClockTickWrongFalsely : Prop := clockTickRow.holds Tryd.pinned (OpenSpec.ofChange clockTickWrong)

/- THE SECOND FORM. 'bulk': how many values and letters a reading holds, each counted each time it is reached (what is shared counts as often as it is met; a slice's spare places count too). A statement '..UptoSaid' is the law's where the arguments, and the package variables that the reading takes, are together of bulk at most 1048576: NARROWER than '..Said'. Prove '..Said' where nothing that the law and all that it calls make is longer than what came in: it says more and counts as full. Else prove '..UptoSaid'. A law counts once. -/
mutual
def uptoBulk {H : Type} : DataW H → Nat
  | .lit (.string bytes) => bytes.length + 1
  | .lit _ => 1
  | .nil => 1
  | .ptr d => uptoBulk d + 1
  | .slice elems spare => uptoBulkAll elems + uptoBulkAll spare + 1
  | .agg parts => uptoBulkAll parts + 1
  | .iface _ d => uptoBulk d + 1
  | .map entries => uptoBulkEntries entries + 1
  | .held _ => 1
def uptoBulkAll {H : Type} : List (DataW H) → Nat
  | [] => 0
  | d :: r => uptoBulk d + uptoBulkAll r
def uptoBulkEntries {H : Type} : List (Lit × DataW H) → Nat
  | [] => 0
  | x :: r => uptoBulkEntry x + uptoBulkEntries r
def uptoBulkEntry {H : Type} : Lit × DataW H → Nat
  | (.string bytes, d) => bytes.length + uptoBulk d + 1
  | (_, d) => uptoBulk d + 1
 end
def uptoSmall : (H : Type) → List (DataW H) → Bool := fun _ ds => decide (uptoBulkAll ds ≤ 1048576)
def OpenSpec.upto (s : _root_.Go.ChangeSpec) : _root_.Go.OpenSpec := { _root_.Go.OpenSpec.ofChange s with cond := some uptoSmall }

/-- 'drumlinelaw6.HopsTells', WHERE WHAT IT READS IS OF BULK AT MOST 1048576: true; the input reads as it did. -/
def hopsTellsUptoRow : OpenClaim := { program := "ytkhlndhleiaokaadoor", sum := "5597bbe4c9ed0dd9f269e41859d069ee7755cc3dca93e4c0869690aaac904fb2", func := "drumline/drumlinelaw6.HopsTells", spec := "hopsTells", inPlace := ["internal/reflectlite.ValueOf", "(internal/reflectlite.Value).Type", "(internal/reflectlite.Value).IsNil", "internal/reflectlite.TypeOf", "(internal/reflectlite.Value).Elem", "(internal/reflectlite.Value).Set"], unfollowed := true, recurses := true, named := ["errors.errorType"], apart := false, laid := [("errors.errorType", laid_errors_errorType)], narrowed := true }
def HopsTellsUptoSaid : Prop := hopsTellsUptoRow.holds Tryd.pinned (OpenSpec.upto hopsTellsSpec)

/-- 'drumlinelaw6.HopsMade', WHERE WHAT IT READS IS OF BULK AT MOST 1048576: true; the input reads as it did. -/
def hopsMadeUptoRow : OpenClaim := { program := "ytkhlndhleiaokaadoor", sum := "5597bbe4c9ed0dd9f269e41859d069ee7755cc3dca93e4c0869690aaac904fb2", func := "drumline/drumlinelaw6.HopsMade", spec := "hopsMade", inPlace := ["internal/reflectlite.ValueOf", "(internal/reflectlite.Value).Type", "(internal/reflectlite.Value).IsNil", "internal/reflectlite.TypeOf", "(internal/reflectlite.Value).Elem", "(internal/reflectlite.Value).Set"], unfollowed := true, recurses := true, named := ["errors.errorType"], apart := false, laid := [("errors.errorType", laid_errors_errorType)], narrowed := true }
def HopsMadeUptoSaid : Prop := hopsMadeUptoRow.holds Tryd.pinned (OpenSpec.upto hopsMadeSpec)

/-- 'drumlinelaw6.HopsSteps', WHERE WHAT IT READS IS OF BULK AT MOST 1048576: true; the input reads as it did. -/
def hopsStepsUptoRow : OpenClaim := { program := "ytkhlndhleiaokaadoor", sum := "5597bbe4c9ed0dd9f269e41859d069ee7755cc3dca93e4c0869690aaac904fb2", func := "drumline/drumlinelaw6.HopsSteps", spec := "hopsSteps", inPlace := ["internal/reflectlite.ValueOf", "(internal/reflectlite.Value).Type", "(internal/reflectlite.Value).IsNil", "internal/reflectlite.TypeOf", "(internal/reflectlite.Value).Elem", "(internal/reflectlite.Value).Set"], unfollowed := true, recurses := true, named := ["errors.errorType"], apart := false, laid := [("errors.errorType", laid_errors_errorType)], narrowed := true }
def HopsStepsUptoSaid : Prop := hopsStepsUptoRow.holds Tryd.pinned (OpenSpec.upto hopsStepsSpec)

/-- 'drumlinelaw6.HopsWays', WHERE WHAT IT READS IS OF BULK AT MOST 1048576: true; the input reads as it did. -/
def hopsWaysUptoRow : OpenClaim := { program := "ytkhlndhleiaokaadoor", sum := "5597bbe4c9ed0dd9f269e41859d069ee7755cc3dca93e4c0869690aaac904fb2", func := "drumline/drumlinelaw6.HopsWays", spec := "hopsWays", inPlace := ["internal/reflectlite.ValueOf", "(internal/reflectlite.Value).Type", "(internal/reflectlite.Value).IsNil", "internal/reflectlite.TypeOf", "(internal/reflectlite.Value).Elem", "(internal/reflectlite.Value).Set"], unfollowed := true, recurses := true, named := ["errors.errorType"], apart := false, laid := [("errors.errorType", laid_errors_errorType)], narrowed := true }
def HopsWaysUptoSaid : Prop := hopsWaysUptoRow.holds Tryd.pinned (OpenSpec.upto hopsWaysSpec)

/-- 'drumlinelaw8.ClockApart', WHERE WHAT IT READS IS OF BULK AT MOST 1048576: true; the input reads as it did. -/
def clockApartUptoRow : OpenClaim := { program := "ytkhlndhleiaokaadoor", sum := "5597bbe4c9ed0dd9f269e41859d069ee7755cc3dca93e4c0869690aaac904fb2", func := "drumline/drumlinelaw8.ClockApart", spec := "clockApart", inPlace := ["internal/reflectlite.ValueOf", "(internal/reflectlite.Value).Type", "(internal/reflectlite.Value).IsNil", "internal/reflectlite.TypeOf", "(internal/reflectlite.Value).Elem", "(internal/reflectlite.Value).Set"], unfollowed := true, recurses := true, named := ["errors.errorType"], apart := false, laid := [("errors.errorType", laid_errors_errorType)], narrowed := true }
def ClockApartUptoSaid : Prop := clockApartUptoRow.holds Tryd.pinned (OpenSpec.upto clockApartSpec)

/-- 'drumlinelaw10.GuardRight', WHERE WHAT IT READS IS OF BULK AT MOST 1048576: true; the input reads as it did. -/
def guardRightUptoRow : OpenClaim := { program := "ytkhlndhleiaokaadoor", sum := "5597bbe4c9ed0dd9f269e41859d069ee7755cc3dca93e4c0869690aaac904fb2", func := "drumline/drumlinelaw10.GuardRight", spec := "guardRight", inPlace := ["internal/reflectlite.ValueOf", "(internal/reflectlite.Value).Type", "(internal/reflectlite.Value).IsNil", "internal/reflectlite.TypeOf", "(internal/reflectlite.Value).Elem", "(internal/reflectlite.Value).Set"], unfollowed := true, recurses := true, named := ["errors.errorType"], apart := false, laid := [("errors.errorType", laid_errors_errorType)], narrowed := true }
def GuardRightUptoSaid : Prop := guardRightUptoRow.holds Tryd.pinned (OpenSpec.upto guardRightSpec)

/-- 'drumlinelaw8.ClockTick', WHERE WHAT IT READS IS OF BULK AT MOST 1048576: true; the input reads as it did. -/
def clockTickUptoRow : OpenClaim := { program := "ytkhlndhleiaokaadoor", sum := "5597bbe4c9ed0dd9f269e41859d069ee7755cc3dca93e4c0869690aaac904fb2", func := "drumline/drumlinelaw8.ClockTick", spec := "clockTick", inPlace := ["internal/reflectlite.ValueOf", "(internal/reflectlite.Value).Type", "(internal/reflectlite.Value).IsNil", "internal/reflectlite.TypeOf", "(internal/reflectlite.Value).Elem", "(internal/reflectlite.Value).Set"], unfollowed := true, recurses := true, named := ["errors.errorType"], apart := false, laid := [("errors.errorType", laid_errors_errorType)], narrowed := true }
def ClockTickUptoSaid : Prop := clockTickUptoRow.holds Tryd.pinned (OpenSpec.upto clockTickSpec)

end Rows
end Go.Proofs.YtkhlndhleiaokaaDoor
