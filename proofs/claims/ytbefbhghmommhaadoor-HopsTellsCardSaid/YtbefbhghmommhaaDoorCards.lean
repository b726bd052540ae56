/-
  DERIVED. GIVEN WITH THE SEED: THE CARDS: each row of YtbefbhghmommhaaDoorRows.lean that lists a variable, with what it lists TIED to the program's text (the seventh form; the later family's looks); each row that meets fmt, with fmt's text TOLD by the authors' own Lean function (tested against real Go, not proved from fmt's source: count such statements apart). THE CARD IS WHAT COUNTS. Prove the row's statement (the work); the ties are given (YtbefbhghmommhaaDoorTie.lean); close each card by the builder's one call (the guide's Derived/Test/ToyasCard.lean, 'card_holds'). Laid BY PROGRAM, IN A SANDBOX (cutbox-door.mjs). By AI agents, Wed Nov 11 2026. No macro, syntax, notation, axiom, sorry.
-/
import Derived.Test.YtbefbhghmommhaaDoorRows
import GoSem.ClaimSeven
namespace Go.Proofs.YtbefbhghmommhaaDoor
namespace Rows

/-- THE TIED CARD OF 'drumlinelaw6.HopsTells'. -/
def hopsTellsCard : Claim7 := { stood := { row := hopsTellsRow, standIns := [], harness := (true, "f9eec7cda7f73cf53b250ac35f3a5a04c4a3952438aff2727789b07fa227a21d"), looks := true }, kinds := [], alts := [], laidByText := true, laidKinds := [.handle], laidTests := true, laidLooks := .later }
def HopsTellsCardSaid : Prop := Claim7.holds Tryd.pinned (.plain (OpenSpec.ofChange hopsTellsSpec)) hopsTellsCard

/-- THE SECOND FORM's CARD OF 'drumlinelaw6.HopsTells'. -/
def hopsTellsUptoCard : Claim7 := { stood := { row := hopsTellsUptoRow, standIns := [], harness := (true, "f9eec7cda7f73cf53b250ac35f3a5a04c4a3952438aff2727789b07fa227a21d"), looks := true }, kinds := [], alts := [], laidByText := true, laidKinds := [.handle], laidTests := true, laidLooks := .later }
def HopsTellsUptoCardSaid : Prop := Claim7.holds Tryd.pinned (.plain (OpenSpec.upto hopsTellsSpec)) hopsTellsUptoCard
end Rows
end Go.Proofs.YtbefbhghmommhaaDoor
