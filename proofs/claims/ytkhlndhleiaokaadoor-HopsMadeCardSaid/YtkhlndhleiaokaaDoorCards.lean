/-
  DERIVED. GIVEN WITH THE SEED: THE CARDS: each row of YtkhlndhleiaokaaDoorRows.lean that lists a variable, with what it lists TIED to the program's text (the seventh form; the later family's looks); each row that meets fmt, with fmt's text TOLD by the authors' own Lean function (tested against real Go, not proved from fmt's source: count such statements apart). THE CARD IS WHAT COUNTS. Prove the row's statement (the work); the ties are given (YtkhlndhleiaokaaDoorTie.lean); close each card by the builder's one call (the guide's Derived/Test/ToyasCard.lean, 'card_holds'). Laid BY PROGRAM, IN A SANDBOX (cutbox-door.mjs). By AI agents, Wed Nov 11 2026. No macro, syntax, notation, axiom, sorry.
-/
import Derived.Test.YtkhlndhleiaokaaDoorRows
import GoSem.ClaimSeven
namespace Go.Proofs.YtkhlndhleiaokaaDoor
namespace Rows

/-- THE TIED CARD OF 'drumlinelaw6.HopsTells'. -/
def hopsTellsCard : Claim7 := { stood := { row := hopsTellsRow, standIns := [], harness := (true, "aa11cce12a0c04e61e76d8dc3ab5c0d4b46ee93e17cf119b1784acb63d292e8e"), looks := true }, kinds := [], alts := [], laidByText := true, laidKinds := [.handle], laidTests := true, laidLooks := .later }
def HopsTellsCardSaid : Prop := Claim7.holds Tryd.pinned (.plain (OpenSpec.ofChange hopsTellsSpec)) hopsTellsCard

/-- THE TIED CARD OF 'drumlinelaw6.HopsMade'. -/
def hopsMadeCard : Claim7 := { stood := { row := hopsMadeRow, standIns := [], harness := (true, "aa11cce12a0c04e61e76d8dc3ab5c0d4b46ee93e17cf119b1784acb63d292e8e"), looks := true }, kinds := [], alts := [], laidByText := true, laidKinds := [.handle], laidTests := true, laidLooks := .later }
def HopsMadeCardSaid : Prop := Claim7.holds Tryd.pinned (.plain (OpenSpec.ofChange hopsMadeSpec)) hopsMadeCard

/-- THE TIED CARD OF 'drumlinelaw6.HopsSteps'. -/
def hopsStepsCard : Claim7 := { stood := { row := hopsStepsRow, standIns := [], harness := (true, "aa11cce12a0c04e61e76d8dc3ab5c0d4b46ee93e17cf119b1784acb63d292e8e"), looks := true }, kinds := [], alts := [], laidByText := true, laidKinds := [.handle], laidTests := true, laidLooks := .later }
def HopsStepsCardSaid : Prop := Claim7.holds Tryd.pinned (.plain (OpenSpec.ofChange hopsStepsSpec)) hopsStepsCard

/-- THE TIED CARD OF 'drumlinelaw6.HopsWays'. -/
def hopsWaysCard : Claim7 := { stood := { row := hopsWaysRow, standIns := [], harness := (true, "aa11cce12a0c04e61e76d8dc3ab5c0d4b46ee93e17cf119b1784acb63d292e8e"), looks := true }, kinds := [], alts := [], laidByText := true, laidKinds := [.handle], laidTests := true, laidLooks := .later }
def HopsWaysCardSaid : Prop := Claim7.holds Tryd.pinned (.plain (OpenSpec.ofChange hopsWaysSpec)) hopsWaysCard

/-- THE TIED CARD OF 'drumlinelaw8.ClockApart'. -/
def clockApartCard : Claim7 := { stood := { row := clockApartRow, standIns := [], harness := (true, "aa11cce12a0c04e61e76d8dc3ab5c0d4b46ee93e17cf119b1784acb63d292e8e"), looks := true }, kinds := [], alts := [], laidByText := true, laidKinds := [.handle], laidTests := true, laidLooks := .later }
def ClockApartCardSaid : Prop := Claim7.holds Tryd.pinned (.plain (OpenSpec.ofChange clockApartSpec)) clockApartCard

/-- THE TIED CARD OF 'drumlinelaw10.GuardRight'. -/
def guardRightCard : Claim7 := { stood := { row := guardRightRow, standIns := [], harness := (true, "aa11cce12a0c04e61e76d8dc3ab5c0d4b46ee93e17cf119b1784acb63d292e8e"), looks := true }, kinds := [], alts := [], laidByText := true, laidKinds := [.handle], laidTests := true, laidLooks := .later }
def GuardRightCardSaid : Prop := Claim7.holds Tryd.pinned (.plain (OpenSpec.ofChange guardRightSpec)) guardRightCard

/-- THE TIED CARD OF 'drumlinelaw8.ClockTick'. -/
def clockTickCard : Claim7 := { stood := { row := clockTickRow, standIns := [], harness := (true, "aa11cce12a0c04e61e76d8dc3ab5c0d4b46ee93e17cf119b1784acb63d292e8e"), looks := true }, kinds := [], alts := [], laidByText := true, laidKinds := [.handle], laidTests := true, laidLooks := .later }
def ClockTickCardSaid : Prop := Claim7.holds Tryd.pinned (.plain (OpenSpec.ofChange clockTickSpec)) clockTickCard

/-- THE SECOND FORM's CARD OF 'drumlinelaw6.HopsTells'. -/
def hopsTellsUptoCard : Claim7 := { stood := { row := hopsTellsUptoRow, standIns := [], harness := (true, "aa11cce12a0c04e61e76d8dc3ab5c0d4b46ee93e17cf119b1784acb63d292e8e"), looks := true }, kinds := [], alts := [], laidByText := true, laidKinds := [.handle], laidTests := true, laidLooks := .later }
def HopsTellsUptoCardSaid : Prop := Claim7.holds Tryd.pinned (.plain (OpenSpec.upto hopsTellsSpec)) hopsTellsUptoCard

/-- THE SECOND FORM's CARD OF 'drumlinelaw6.HopsMade'. -/
def hopsMadeUptoCard : Claim7 := { stood := { row := hopsMadeUptoRow, standIns := [], harness := (true, "aa11cce12a0c04e61e76d8dc3ab5c0d4b46ee93e17cf119b1784acb63d292e8e"), looks := true }, kinds := [], alts := [], laidByText := true, laidKinds := [.handle], laidTests := true, laidLooks := .later }
def HopsMadeUptoCardSaid : Prop := Claim7.holds Tryd.pinned (.plain (OpenSpec.upto hopsMadeSpec)) hopsMadeUptoCard

/-- THE SECOND FORM's CARD OF 'drumlinelaw6.HopsSteps'. -/
def hopsStepsUptoCard : Claim7 := { stood := { row := hopsStepsUptoRow, standIns := [], harness := (true, "aa11cce12a0c04e61e76d8dc3ab5c0d4b46ee93e17cf119b1784acb63d292e8e"), looks := true }, kinds := [], alts := [], laidByText := true, laidKinds := [.handle], laidTests := true, laidLooks := .later }
def HopsStepsUptoCardSaid : Prop := Claim7.holds Tryd.pinned (.plain (OpenSpec.upto hopsStepsSpec)) hopsStepsUptoCard

/-- THE SECOND FORM's CARD OF 'drumlinelaw6.HopsWays'. -/
def hopsWaysUptoCard : Claim7 := { stood := { row := hopsWaysUptoRow, standIns := [], harness := (true, "aa11cce12a0c04e61e76d8dc3ab5c0d4b46ee93e17cf119b1784acb63d292e8e"), looks := true }, kinds := [], alts := [], laidByText := true, laidKinds := [.handle], laidTests := true, laidLooks := .later }
def HopsWaysUptoCardSaid : Prop := Claim7.holds Tryd.pinned (.plain (OpenSpec.upto hopsWaysSpec)) hopsWaysUptoCard

/-- THE SECOND FORM's CARD OF 'drumlinelaw8.ClockApart'. -/
def clockApartUptoCard : Claim7 := { stood := { row := clockApartUptoRow, standIns := [], harness := (true, "aa11cce12a0c04e61e76d8dc3ab5c0d4b46ee93e17cf119b1784acb63d292e8e"), looks := true }, kinds := [], alts := [], laidByText := true, laidKinds := [.handle], laidTests := true, laidLooks := .later }
def ClockApartUptoCardSaid : Prop := Claim7.holds Tryd.pinned (.plain (OpenSpec.upto clockApartSpec)) clockApartUptoCard

/-- THE SECOND FORM's CARD OF 'drumlinelaw10.GuardRight'. -/
def guardRightUptoCard : Claim7 := { stood := { row := guardRightUptoRow, standIns := [], harness := (true, "aa11cce12a0c04e61e76d8dc3ab5c0d4b46ee93e17cf119b1784acb63d292e8e"), looks := true }, kinds := [], alts := [], laidByText := true, laidKinds := [.handle], laidTests := true, laidLooks := .later }
def GuardRightUptoCardSaid : Prop := Claim7.holds Tryd.pinned (.plain (OpenSpec.upto guardRightSpec)) guardRightUptoCard

/-- THE SECOND FORM's CARD OF 'drumlinelaw8.ClockTick'. -/
def clockTickUptoCard : Claim7 := { stood := { row := clockTickUptoRow, standIns := [], harness := (true, "aa11cce12a0c04e61e76d8dc3ab5c0d4b46ee93e17cf119b1784acb63d292e8e"), looks := true }, kinds := [], alts := [], laidByText := true, laidKinds := [.handle], laidTests := true, laidLooks := .later }
def ClockTickUptoCardSaid : Prop := Claim7.holds Tryd.pinned (.plain (OpenSpec.upto clockTickSpec)) clockTickUptoCard
end Rows
end Go.Proofs.YtkhlndhleiaokaaDoor
