/-
  DERIVED. GIVEN WITH THE SEED: THE CARDS: each row of YtaaifdclojkdmaaGreatDoorRows.lean that lists a variable, with what it lists TIED to the program's text (the seventh form; the later family's looks); each row that meets fmt, with fmt's text TOLD by the authors' own Lean function (tested against real Go, not proved from fmt's source: count such statements apart). THE CARD IS WHAT COUNTS. Prove the row's statement (the work); the ties are given (YtaaifdclojkdmaaGreatDoorTie.lean); close each card by the builder's one call (the guide's Derived/Test/ToyasCard.lean, 'card_holds'). Laid BY PROGRAM, IN A SANDBOX (cutbox-door.mjs). By AI agents, Wed Nov 11 2026. No macro, syntax, notation, axiom, sorry.
-/
import Derived.Test.YtaaifdclojkdmaaGreatDoorRows
import GoSem.ClaimSeven
namespace Go.Proofs.YtaaifdclojkdmaaGreatDoor
namespace Rows

/-- THE TIED CARD OF 'drumlinelaw4.FrameReads'. -/
def frameReadsCard : Claim7 := { stood := { row := frameReadsRow, standIns := [], harness := (true, "a342f1434b76ab051945d57519797fa830aac0ca3c0180b1394f607d2ee4aa50"), looks := true }, kinds := [], alts := [], laidByText := true, laidKinds := [.handle], laidTests := true, laidLooks := .later }
def FrameReadsCardSaid : Prop := Claim7.holds Tryz.pinned (.plain (OpenSpec.ofChange frameReadsSpec)) frameReadsCard

/-- THE TIED CARD OF 'drumlinelaw4.FrameSealed'. -/
def frameSealedCard : Claim7 := { stood := { row := frameSealedRow, standIns := [], harness := (true, "a342f1434b76ab051945d57519797fa830aac0ca3c0180b1394f607d2ee4aa50"), looks := true }, kinds := [], alts := [], laidByText := true, laidKinds := [.handle], laidTests := true, laidLooks := .later }
def FrameSealedCardSaid : Prop := Claim7.holds Tryz.pinned (.plain (OpenSpec.ofChange frameSealedSpec)) frameSealedCard

/-- THE SECOND FORM's CARD OF 'drumlinelaw4.FrameReads'. -/
def frameReadsUptoCard : Claim7 := { stood := { row := frameReadsUptoRow, standIns := [], harness := (true, "a342f1434b76ab051945d57519797fa830aac0ca3c0180b1394f607d2ee4aa50"), looks := true }, kinds := [], alts := [], laidByText := true, laidKinds := [.handle], laidTests := true, laidLooks := .later }
def FrameReadsUptoCardSaid : Prop := Claim7.holds Tryz.pinned (.plain (OpenSpec.upto frameReadsSpec)) frameReadsUptoCard

/-- THE SECOND FORM's CARD OF 'drumlinelaw4.FrameSealed'. -/
def frameSealedUptoCard : Claim7 := { stood := { row := frameSealedUptoRow, standIns := [], harness := (true, "a342f1434b76ab051945d57519797fa830aac0ca3c0180b1394f607d2ee4aa50"), looks := true }, kinds := [], alts := [], laidByText := true, laidKinds := [.handle], laidTests := true, laidLooks := .later }
def FrameSealedUptoCardSaid : Prop := Claim7.holds Tryz.pinned (.plain (OpenSpec.upto frameSealedSpec)) frameSealedUptoCard
end Rows
end Go.Proofs.YtaaifdclojkdmaaGreatDoor
