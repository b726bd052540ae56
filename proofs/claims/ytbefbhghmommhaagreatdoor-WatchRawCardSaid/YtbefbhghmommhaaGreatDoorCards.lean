/-
  DERIVED. GIVEN WITH THE SEED: THE CARDS: each row of YtbefbhghmommhaaGreatDoorRows.lean that lists a variable, with what it lists TIED to the program's text (the seventh form; the later family's looks); each row that meets fmt, with fmt's text TOLD by the authors' own Lean function (tested against real Go, not proved from fmt's source: count such statements apart). THE CARD IS WHAT COUNTS. Prove the row's statement (the work); the ties are given (YtbefbhghmommhaaGreatDoorTie.lean); close each card by the builder's one call (the guide's Derived/Test/ToyasCard.lean, 'card_holds'). Laid BY PROGRAM, IN A SANDBOX (cutbox-door.mjs). By AI agents, Wed Nov 11 2026. No macro, syntax, notation, axiom, sorry.
-/
import Derived.Test.YtbefbhghmommhaaGreatDoorRows
import GoSem.ClaimSeven
namespace Go.Proofs.YtbefbhghmommhaaGreatDoor
namespace Rows

/-- THE TIED CARD OF 'drumlinelaw28.WatchRaw'. -/
def watchRawCard : Claim7 := { stood := { row := watchRawRow, standIns := [], harness := (true, "4b1139c0058da82ab54db3207ddf80af0545b3cce207cbf1f16621d98506e1b4"), looks := true }, kinds := [], alts := [], laidByText := true, laidKinds := [.handle], laidTests := true, laidLooks := .later }
def WatchRawCardSaid : Prop := Claim7.holds Tryz.pinned (.plain (OpenSpec.ofChange watchRawSpec)) watchRawCard

/-- THE TIED CARD OF 'drumlinelaw28.WatchSkews'. -/
def watchSkewsCard : Claim7 := { stood := { row := watchSkewsRow, standIns := [], harness := (true, "4b1139c0058da82ab54db3207ddf80af0545b3cce207cbf1f16621d98506e1b4"), looks := true }, kinds := [], alts := [], laidByText := true, laidKinds := [.handle], laidTests := true, laidLooks := .later }
def WatchSkewsCardSaid : Prop := Claim7.holds Tryz.pinned (.plain (OpenSpec.ofChange watchSkewsSpec)) watchSkewsCard

/-- THE TIED CARD OF 'drumlinelaw28.WatchCells'. -/
def watchCellsCard : Claim7 := { stood := { row := watchCellsRow, standIns := [], harness := (true, "4b1139c0058da82ab54db3207ddf80af0545b3cce207cbf1f16621d98506e1b4"), looks := true }, kinds := [], alts := [], laidByText := true, laidKinds := [.handle], laidTests := true, laidLooks := .later }
def WatchCellsCardSaid : Prop := Claim7.holds Tryz.pinned (.plain (OpenSpec.ofChange watchCellsSpec)) watchCellsCard

/-- THE TIED CARD OF 'drumlinelaw28.WatchMade'. -/
def watchMadeCard : Claim7 := { stood := { row := watchMadeRow, standIns := [], harness := (true, "4b1139c0058da82ab54db3207ddf80af0545b3cce207cbf1f16621d98506e1b4"), looks := true }, kinds := [], alts := [], laidByText := true, laidKinds := [.handle], laidTests := true, laidLooks := .later }
def WatchMadeCardSaid : Prop := Claim7.holds Tryz.pinned (.plain (OpenSpec.ofChange watchMadeSpec)) watchMadeCard

/-- THE SECOND FORM's CARD OF 'drumlinelaw28.WatchRaw'. -/
def watchRawUptoCard : Claim7 := { stood := { row := watchRawUptoRow, standIns := [], harness := (true, "4b1139c0058da82ab54db3207ddf80af0545b3cce207cbf1f16621d98506e1b4"), looks := true }, kinds := [], alts := [], laidByText := true, laidKinds := [.handle], laidTests := true, laidLooks := .later }
def WatchRawUptoCardSaid : Prop := Claim7.holds Tryz.pinned (.plain (OpenSpec.upto watchRawSpec)) watchRawUptoCard

/-- THE SECOND FORM's CARD OF 'drumlinelaw28.WatchSkews'. -/
def watchSkewsUptoCard : Claim7 := { stood := { row := watchSkewsUptoRow, standIns := [], harness := (true, "4b1139c0058da82ab54db3207ddf80af0545b3cce207cbf1f16621d98506e1b4"), looks := true }, kinds := [], alts := [], laidByText := true, laidKinds := [.handle], laidTests := true, laidLooks := .later }
def WatchSkewsUptoCardSaid : Prop := Claim7.holds Tryz.pinned (.plain (OpenSpec.upto watchSkewsSpec)) watchSkewsUptoCard

/-- THE SECOND FORM's CARD OF 'drumlinelaw28.WatchCells'. -/
def watchCellsUptoCard : Claim7 := { stood := { row := watchCellsUptoRow, standIns := [], harness := (true, "4b1139c0058da82ab54db3207ddf80af0545b3cce207cbf1f16621d98506e1b4"), looks := true }, kinds := [], alts := [], laidByText := true, laidKinds := [.handle], laidTests := true, laidLooks := .later }
def WatchCellsUptoCardSaid : Prop := Claim7.holds Tryz.pinned (.plain (OpenSpec.upto watchCellsSpec)) watchCellsUptoCard

/-- THE SECOND FORM's CARD OF 'drumlinelaw28.WatchMade'. -/
def watchMadeUptoCard : Claim7 := { stood := { row := watchMadeUptoRow, standIns := [], harness := (true, "4b1139c0058da82ab54db3207ddf80af0545b3cce207cbf1f16621d98506e1b4"), looks := true }, kinds := [], alts := [], laidByText := true, laidKinds := [.handle], laidTests := true, laidLooks := .later }
def WatchMadeUptoCardSaid : Prop := Claim7.holds Tryz.pinned (.plain (OpenSpec.upto watchMadeSpec)) watchMadeUptoCard
end Rows
end Go.Proofs.YtbefbhghmommhaaGreatDoor
