/-
  DERIVED. GIVEN WITH THE SEED: THE CARDS: each row of YtbiofobpafpgfaaDoorRows.lean that lists a variable, with what it lists TIED to the program's text (the seventh form; the later family's looks); each row that meets fmt, with fmt's text TOLD by the authors' own Lean function (tested against real Go, not proved from fmt's source: count such statements apart). THE CARD IS WHAT COUNTS. Prove the row's statement (the work); the ties are given (YtbiofobpafpgfaaDoorTie.lean); close each card by the builder's one call (the guide's Derived/Test/ToyasCard.lean, 'card_holds'). Laid BY PROGRAM, IN A SANDBOX (cutbox-door.mjs). By AI agents, Wed Nov 11 2026. No macro, syntax, notation, axiom, sorry.
-/
import Derived.Test.YtbiofobpafpgfaaDoorRows
import GoSem.ClaimSeven
namespace Go.Proofs.YtbiofobpafpgfaaDoor
namespace Rows

/-- THE TIED CARD OF 'drumlinelaw28.WatchOrder'. -/
def watchOrderCard : Claim7 := { stood := { row := watchOrderRow, standIns := [], harness := (true, "fbc9d5774ba926c13ab488bceb047a4e93cb731dfb7871611e59869251ea1f97"), looks := true }, kinds := [], alts := [], laidByText := true, laidKinds := [.handle], laidTests := true, laidLooks := .later }
def WatchOrderCardSaid : Prop := Claim7.holds Tryd.pinned (.plain (OpenSpec.ofChange watchOrderSpec)) watchOrderCard

/-- THE SECOND FORM's CARD OF 'drumlinelaw28.WatchOrder'. -/
def watchOrderUptoCard : Claim7 := { stood := { row := watchOrderUptoRow, standIns := [], harness := (true, "fbc9d5774ba926c13ab488bceb047a4e93cb731dfb7871611e59869251ea1f97"), looks := true }, kinds := [], alts := [], laidByText := true, laidKinds := [.handle], laidTests := true, laidLooks := .later }
def WatchOrderUptoCardSaid : Prop := Claim7.holds Tryd.pinned (.plain (OpenSpec.upto watchOrderSpec)) watchOrderUptoCard
end Rows
end Go.Proofs.YtbiofobpafpgfaaDoor
