/-
  NARROWER THAN 'FOR EVERY INPUT', by the rows' own cells (each row's printed sentence says how): WatchRaw: laid · WatchSkews: laid · WatchCells: laid · WatchMade: laid.
  DERIVED. THE GIVEN ROWS OF THIS SEAT. 4 by the template 'for every input the law returns true; each argument reads behind the call as it read before'; 0 by the template 'total and deterministic' (their statements: YtbefbhghmommhaaGreatDoorTotals.lean).
  GIVEN WITH THE SEED: the statements are not yours to turn. If you find one false, say at which input.
  Laid BY PROGRAM, IN A SANDBOX (cutbox-rows.mjs): the forced cells as the released guide's own fill.sh prints them over the translation f410ea4446edf686… (all of the seat's roots in one cut). By AI agents, Wed Nov 11 2026. No macro, syntax, notation, axiom, sorry.
-/
import Derived.Test.YtbefbhghmommhaaGreatDoorChecked
import GoSem.Claim
import GoSem.ClaimJoined
import GoSem.ClaimMapViews
import Derived.JoinedTies
import Derived.KernelRfl
namespace Go.Proofs.YtbefbhghmommhaaGreatDoor
/- THE CELL 'sum', in the pinned program and in every row, IS THE sha256 OF THE DUMP (.gsa) THAT YtbefbhghmommhaaGreatDoorProg.lean LOADS. Nothing in Lean hashes anything: it is a label: what it is worth is what the hold of that sum in a sandbox is worth. -/
noncomputable def Tryz.pinned : Pinned := { name := "ytbefbhghmommhaagreatdoor", sum := "f410ea4446edf6866876965079146b39a357bb294b4b802eaf695ec9d01a4524", checked := Tryz.checked }
namespace Rows
def none {H : Type} : Left H := { results := [], args := [] }

/- WHAT THE LISTED PACKAGE-LEVEL VARIABLES READ AS WHEN THE CALL BEGINS. Each datum BY PROGRAM (the guide's laid-datum.mjs) off the statement by which the dump's own 'gosem.cut.vars' lays the variable. In a bare row this is a premise. The card (YtbefbhghmommhaaGreatDoorCards.lean) ties it to the program's text. -/
def laid_errors_errorType {H : Type} : DataW H := .iface "internal/reflectlite.rtype" (.agg [.ptr (.lit (.string [101, 114, 114, 111, 114]))])

/-- 'drumlinelaw28.WatchRaw': WHATEVER THE INPUT: true; the input reads as it did. -/
def watchRawSpec : ChangeSpec := { name := "watchRaw", fn := fun _ => fun
  | [d1, d2] => { results := [.lit (.bool true)], args := [d1, d2] }
  | _ => none }
def watchRawRow : OpenClaim := { program := "ytbefbhghmommhaagreatdoor", sum := "f410ea4446edf6866876965079146b39a357bb294b4b802eaf695ec9d01a4524", func := "drumline/drumlinelaw28.WatchRaw", spec := "watchRaw", inPlace := ["internal/reflectlite.ValueOf", "(internal/reflectlite.Value).Type", "(internal/reflectlite.Value).IsNil", "internal/reflectlite.TypeOf", "(internal/reflectlite.Value).Elem", "(internal/reflectlite.Value).Set"], unfollowed := true, recurses := true, named := ["errors.errorType"], apart := false, laid := [("errors.errorType", laid_errors_errorType)] }
def WatchRawSaid : Prop := watchRawRow.holds Tryz.pinned (OpenSpec.ofChange watchRawSpec)

/-- ITS FALSE NEIGHBOUR: 'it returns false'. Refute it at one input. -/
def watchRawWrong : ChangeSpec := { name := "watchRaw", fn := fun _ => fun
  | [d1, d2] => { results := [.lit (.bool false)], args := [d1, d2] }
  | _ => none }
def WatchRawWrongFalsely : Prop := watchRawRow.holds Tryz.pinned (OpenSpec.ofChange watchRawWrong)

/-- 'drumlinelaw28.WatchSkews': WHATEVER THE INPUT: true; the input reads as it did. -/
def watchSkewsSpec : ChangeSpec := { name := "watchSkews", fn := fun _ => fun
  | [d1, d2, d3, d4] => { results := [.lit (.bool true)], args := [d1, d2, d3, d4] }
  | _ => none }
def watchSkewsRow : OpenClaim := { program := "ytbefbhghmommhaagreatdoor", sum := "f410ea4446edf6866876965079146b39a357bb294b4b802eaf695ec9d01a4524", func := "drumline/drumlinelaw28.WatchSkews", spec := "watchSkews", inPlace := ["internal/reflectlite.ValueOf", "(internal/reflectlite.Value).Type", "(internal/reflectlite.Value).IsNil", "internal/reflectlite.TypeOf", "(internal/reflectlite.Value).Elem", "(internal/reflectlite.Value).Set"], unfollowed := true, recurses := true, named := ["errors.errorType"], apart := false, laid := [("errors.errorType", laid_errors_errorType)] }
def WatchSkewsSaid : Prop := watchSkewsRow.holds Tryz.pinned (OpenSpec.ofChange watchSkewsSpec)

/-- ITS FALSE NEIGHBOUR: 'it returns false'. Refute it at one input. -/
def watchSkewsWrong : ChangeSpec := { name := "watchSkews", fn := fun _ => fun
  | [d1, d2, d3, d4] => { results := [.lit (.bool false)], args := [d1, d2, d3, d4] }
  | _ => none }
def WatchSkewsWrongFalsely : Prop := watchSkewsRow.holds Tryz.pinned (OpenSpec.ofChange watchSkewsWrong)

/-- 'drumlinelaw28.WatchCells': WHATEVER THE INPUT: true; the input reads as it did. -/
def watchCellsSpec : ChangeSpec := { name := "watchCells", fn := fun _ => fun
  | [d1, d2, d3] => { results := [.lit (.bool true)], args := [d1, d2, d3] }
  | _ => none }
def watchCellsRow : OpenClaim := { program := "ytbefbhghmommhaagreatdoor", sum := "f410ea4446edf6866876965079146b39a357bb294b4b802eaf695ec9d01a4524", func := "drumline/drumlinelaw28.WatchCells", spec := "watchCells", inPlace := ["internal/reflectlite.ValueOf", "(internal/reflectlite.Value).Type", "(internal/reflectlite.Value).IsNil", "internal/reflectlite.TypeOf", "(internal/reflectlite.Value).Elem", "(internal/reflectlite.Value).Set"], unfollowed := true, recurses := true, named := ["errors.errorType"], apart := false, laid := [("errors.errorType", laid_errors_errorType)] }
def WatchCellsSaid : Prop := watchCellsRow.holds Tryz.pinned (OpenSpec.ofChange watchCellsSpec)

/-- ITS FALSE NEIGHBOUR: 'it returns false'. Refute it at one input. -/
def watchCellsWrong : ChangeSpec := { name := "watchCells", fn := fun _ => fun
  | [d1, d2, d3] => { results := [.lit (.bool false)], args := [d1, d2, d3] }
  | _ => none }
def WatchCellsWrongFalsely : Prop := watchCellsRow.holds Tryz.pinned (OpenSpec.ofChange watchCellsWrong)

/-- 'drumlinelaw28.WatchMade': WHATEVER THE INPUT: true; the input reads as it did. -/
def watchMadeSpec : ChangeSpec := { name := "watchMade", fn := fun _ => fun
  | [d1, d2, d3] => { results := [.lit (.bool true)], args := [d1, d2, d3] }
  | _ => none }
def watchMadeRow : OpenClaim := { program := "ytbefbhghmommhaagreatdoor", sum := "f410ea4446edf6866876965079146b39a357bb294b4b802eaf695ec9d01a4524", func := "drumline/drumlinelaw28.WatchMade", spec := "watchMade", inPlace := ["internal/reflectlite.ValueOf", "(internal/reflectlite.Value).Type", "(internal/reflectlite.Value).IsNil", "internal/reflectlite.TypeOf", "(internal/reflectlite.Value).Elem", "(internal/reflectlite.Value).Set"], unfollowed := true, recurses := true, named := ["errors.errorType"], apart := false, laid := [("errors.errorType", laid_errors_errorType)] }
def WatchMadeSaid : Prop := watchMadeRow.holds Tryz.pinned (OpenSpec.ofChange watchMadeSpec)

/-- ITS FALSE NEIGHBOUR: 'it returns false'. Refute it at one input. -/
def watchMadeWrong : ChangeSpec := { name := "watchMade", fn := fun _ => fun
  | [d1, d2, d3] => { results := [.lit (.bool false)], args := [d1, d2, d3] }
  | _ => none }
def WatchMadeWrongFalsely : Prop := watchMadeRow.holds Tryz.pinned (OpenSpec.ofChange watchMadeWrong)

/- THE SECOND FORM. 'bulk': how many values and letters a reading holds, each counted each time it is reached (what is shared counts as often as it is met; a slice's spare places count too). A statement '..UptoSaid' is the law's where the arguments, and the package variables that the reading takes, are together of bulk at most 1048576: NARROWER than '..Said'. Prove '..Said' where nothing that the law and all that it calls make is longer than what came in: it says more and counts as full. Else prove '..UptoSaid'. A law counts once. -/
mutual
def uptoBulk {H : Type} : DataW H → Nat
  | .lit (.string bytes) => bytes.length + 1
  | .lit _ => 1
  | .nil => 1
  | .ptr d => uptoBulk d + 1
  | .slice elems spare => uptoBulkAll elems + uptoBulkAll spare + 1
  | .agg parts => uptoBulkAll parts + 1
  | .iface _ d => uptoBulk d + 1
  | .map entries => uptoBulkEntries entries + 1
  | .held _ => 1
def uptoBulkAll {H : Type} : List (DataW H) → Nat
  | [] => 0
  | d :: r => uptoBulk d + uptoBulkAll r
def uptoBulkEntries {H : Type} : List (Lit × DataW H) → Nat
  | [] => 0
  | x :: r => uptoBulkEntry x + uptoBulkEntries r
def uptoBulkEntry {H : Type} : Lit × DataW H → Nat
  | (.string bytes, d) => bytes.length + uptoBulk d + 1
  | (_, d) => uptoBulk d + 1
 end
def uptoSmall : (H : Type) → List (DataW H) → Bool := fun _ ds => decide (uptoBulkAll ds ≤ 1048576)
def OpenSpec.upto (s : _root_.Go.ChangeSpec) : _root_.Go.OpenSpec := { _root_.Go.OpenSpec.ofChange s with cond := some uptoSmall }

/-- 'drumlinelaw28.WatchRaw', WHERE WHAT IT READS IS OF BULK AT MOST 1048576: true; the input reads as it did. -/
def watchRawUptoRow : OpenClaim := { program := "ytbefbhghmommhaagreatdoor", sum := "f410ea4446edf6866876965079146b39a357bb294b4b802eaf695ec9d01a4524", func := "drumline/drumlinelaw28.WatchRaw", spec := "watchRaw", inPlace := ["internal/reflectlite.ValueOf", "(internal/reflectlite.Value).Type", "(internal/reflectlite.Value).IsNil", "internal/reflectlite.TypeOf", "(internal/reflectlite.Value).Elem", "(internal/reflectlite.Value).Set"], unfollowed := true, recurses := true, named := ["errors.errorType"], apart := false, laid := [("errors.errorType", laid_errors_errorType)], narrowed := true }
def WatchRawUptoSaid : Prop := watchRawUptoRow.holds Tryz.pinned (OpenSpec.upto watchRawSpec)

/-- 'drumlinelaw28.WatchSkews', WHERE WHAT IT READS IS OF BULK AT MOST 1048576: true; the input reads as it did. -/
def watchSkewsUptoRow : OpenClaim := { program := "ytbefbhghmommhaagreatdoor", sum := "f410ea4446edf6866876965079146b39a357bb294b4b802eaf695ec9d01a4524", func := "drumline/drumlinelaw28.WatchSkews", spec := "watchSkews", inPlace := ["internal/reflectlite.ValueOf", "(internal/reflectlite.Value).Type", "(internal/reflectlite.Value).IsNil", "internal/reflectlite.TypeOf", "(internal/reflectlite.Value).Elem", "(internal/reflectlite.Value).Set"], unfollowed := true, recurses := true, named := ["errors.errorType"], apart := false, laid := [("errors.errorType", laid_errors_errorType)], narrowed := true }
def WatchSkewsUptoSaid : Prop := watchSkewsUptoRow.holds Tryz.pinned (OpenSpec.upto watchSkewsSpec)

/-- 'drumlinelaw28.WatchCells', WHERE WHAT IT READS IS OF BULK AT MOST 1048576: true; the input reads as it did. -/
def watchCellsUptoRow : OpenClaim := { program := "ytbefbhghmommhaagreatdoor", sum := "f410ea4446edf6866876965079146b39a357bb294b4b802eaf695ec9d01a4524", func := "drumline/drumlinelaw28.WatchCells", spec := "watchCells", inPlace := ["internal/reflectlite.ValueOf", "(internal/reflectlite.Value).Type", "(internal/reflectlite.Value).IsNil", "internal/reflectlite.TypeOf", "(internal/reflectlite.Value).Elem", "(internal/reflectlite.Value).Set"], unfollowed := true, recurses := true, named := ["errors.errorType"], apart := false, laid := [("errors.errorType", laid_errors_errorType)], narrowed := true }
def WatchCellsUptoSaid : Prop := watchCellsUptoRow.holds Tryz.pinned (OpenSpec.upto watchCellsSpec)

/-- 'drumlinelaw28.WatchMade', WHERE WHAT IT READS IS OF BULK AT MOST 1048576: true; the input reads as it did. -/
def watchMadeUptoRow : OpenClaim := { program := "ytbefbhghmommhaagreatdoor", sum := "f410ea4446edf6866876965079146b39a357bb294b4b802eaf695ec9d01a4524", func := "drumline/drumlinelaw28.WatchMade", spec := "watchMade", inPlace := ["internal/reflectlite.ValueOf", "(internal/reflectlite.Value).Type", "(internal/reflectlite.Value).IsNil", "internal/reflectlite.TypeOf", "(internal/reflectlite.Value).Elem", "(internal/reflectlite.Value).Set"], unfollowed := true, recurses := true, named := ["errors.errorType"], apart := false, laid := [("errors.errorType", laid_errors_errorType)], narrowed := true }
def WatchMadeUptoSaid : Prop := watchMadeUptoRow.holds Tryz.pinned (OpenSpec.upto watchMadeSpec)

end Rows
end Go.Proofs.YtbefbhghmommhaaGreatDoor
