/-
  DERIVED. GIVEN WITH THE SEED: THE CARDS: each row of YtaaifdclojkdmaaDoorRows.lean that lists a variable, with what it lists TIED to the program's text (the seventh form; the later family's looks); each row that meets fmt, with fmt's text TOLD by the authors' own Lean function (tested against real Go, not proved from fmt's source: count such statements apart). THE CARD IS WHAT COUNTS. Prove the row's statement (the work); the ties are given (YtaaifdclojkdmaaDoorTie.lean); close each card by the builder's one call (the guide's Derived/Test/ToyasCard.lean, 'card_holds'). Laid BY PROGRAM, IN A SANDBOX (cutbox-door.mjs). By AI agents, Wed Nov 11 2026. No macro, syntax, notation, axiom, sorry.
-/
import Derived.Test.YtaaifdclojkdmaaDoorRows
import GoSem.ClaimSeven
namespace Go.Proofs.YtaaifdclojkdmaaDoor
namespace Rows

/-- THE TIED CARD OF 'drumlinelaw4.FrameTells'. -/
def frameTellsCard : Claim7 := { stood := { row := frameTellsRow, standIns := [], harness := (true, "6cda7300b51618dea6a1b3e9141af95fe1074587f5da65d640e1e82977b992fe"), looks := true }, kinds := [], alts := [], laidByText := true, laidKinds := [.handle], laidTests := true, laidLooks := .later }
def FrameTellsCardSaid : Prop := Claim7.holds Tryd.pinned (.plain (OpenSpec.ofChange frameTellsSpec)) frameTellsCard

/-- THE TIED CARD OF 'drumlinelaw4.FrameBack'. -/
def frameBackCard : Claim7 := { stood := { row := frameBackRow, standIns := [], harness := (true, "6cda7300b51618dea6a1b3e9141af95fe1074587f5da65d640e1e82977b992fe"), looks := true }, kinds := [], alts := [], laidByText := true, laidKinds := [.handle], laidTests := true, laidLooks := .later }
def FrameBackCardSaid : Prop := Claim7.holds Tryd.pinned (.plain (OpenSpec.ofChange frameBackSpec)) frameBackCard

/-- THE TIED CARD OF 'drumlinelaw4.FrameCuts'. -/
def frameCutsCard : Claim7 := { stood := { row := frameCutsRow, standIns := [], harness := (true, "6cda7300b51618dea6a1b3e9141af95fe1074587f5da65d640e1e82977b992fe"), looks := true }, kinds := [], alts := [], laidByText := true, laidKinds := [.handle], laidTests := true, laidLooks := .later }
def FrameCutsCardSaid : Prop := Claim7.holds Tryd.pinned (.plain (OpenSpec.ofChange frameCutsSpec)) frameCutsCard

/-- THE TIED CARD OF 'drumlinelaw4.FrameTurns'. -/
def frameTurnsCard : Claim7 := { stood := { row := frameTurnsRow, standIns := [], harness := (true, "6cda7300b51618dea6a1b3e9141af95fe1074587f5da65d640e1e82977b992fe"), looks := true }, kinds := [], alts := [], laidByText := true, laidKinds := [.handle], laidTests := true, laidLooks := .later }
def FrameTurnsCardSaid : Prop := Claim7.holds Tryd.pinned (.plain (OpenSpec.ofChange frameTurnsSpec)) frameTurnsCard

/-- THE TIED CARD OF 'drumlinelaw4.FrameUnlike'. -/
def frameUnlikeCard : Claim7 := { stood := { row := frameUnlikeRow, standIns := [], harness := (true, "6cda7300b51618dea6a1b3e9141af95fe1074587f5da65d640e1e82977b992fe"), looks := true }, kinds := [], alts := [], laidByText := true, laidKinds := [.handle], laidTests := true, laidLooks := .later }
def FrameUnlikeCardSaid : Prop := Claim7.holds Tryd.pinned (.plain (OpenSpec.ofChange frameUnlikeSpec)) frameUnlikeCard

/-- THE SECOND FORM's CARD OF 'drumlinelaw4.FrameTells'. -/
def frameTellsUptoCard : Claim7 := { stood := { row := frameTellsUptoRow, standIns := [], harness := (true, "6cda7300b51618dea6a1b3e9141af95fe1074587f5da65d640e1e82977b992fe"), looks := true }, kinds := [], alts := [], laidByText := true, laidKinds := [.handle], laidTests := true, laidLooks := .later }
def FrameTellsUptoCardSaid : Prop := Claim7.holds Tryd.pinned (.plain (OpenSpec.upto frameTellsSpec)) frameTellsUptoCard

/-- THE SECOND FORM's CARD OF 'drumlinelaw4.FrameBack'. -/
def frameBackUptoCard : Claim7 := { stood := { row := frameBackUptoRow, standIns := [], harness := (true, "6cda7300b51618dea6a1b3e9141af95fe1074587f5da65d640e1e82977b992fe"), looks := true }, kinds := [], alts := [], laidByText := true, laidKinds := [.handle], laidTests := true, laidLooks := .later }
def FrameBackUptoCardSaid : Prop := Claim7.holds Tryd.pinned (.plain (OpenSpec.upto frameBackSpec)) frameBackUptoCard

/-- THE SECOND FORM's CARD OF 'drumlinelaw4.FrameCuts'. -/
def frameCutsUptoCard : Claim7 := { stood := { row := frameCutsUptoRow, standIns := [], harness := (true, "6cda7300b51618dea6a1b3e9141af95fe1074587f5da65d640e1e82977b992fe"), looks := true }, kinds := [], alts := [], laidByText := true, laidKinds := [.handle], laidTests := true, laidLooks := .later }
def FrameCutsUptoCardSaid : Prop := Claim7.holds Tryd.pinned (.plain (OpenSpec.upto frameCutsSpec)) frameCutsUptoCard

/-- THE SECOND FORM's CARD OF 'drumlinelaw4.FrameTurns'. -/
def frameTurnsUptoCard : Claim7 := { stood := { row := frameTurnsUptoRow, standIns := [], harness := (true, "6cda7300b51618dea6a1b3e9141af95fe1074587f5da65d640e1e82977b992fe"), looks := true }, kinds := [], alts := [], laidByText := true, laidKinds := [.handle], laidTests := true, laidLooks := .later }
def FrameTurnsUptoCardSaid : Prop := Claim7.holds Tryd.pinned (.plain (OpenSpec.upto frameTurnsSpec)) frameTurnsUptoCard

/-- THE SECOND FORM's CARD OF 'drumlinelaw4.FrameUnlike'. -/
def frameUnlikeUptoCard : Claim7 := { stood := { row := frameUnlikeUptoRow, standIns := [], harness := (true, "6cda7300b51618dea6a1b3e9141af95fe1074587f5da65d640e1e82977b992fe"), looks := true }, kinds := [], alts := [], laidByText := true, laidKinds := [.handle], laidTests := true, laidLooks := .later }
def FrameUnlikeUptoCardSaid : Prop := Claim7.holds Tryd.pinned (.plain (OpenSpec.upto frameUnlikeSpec)) frameUnlikeUptoCard
end Rows
end Go.Proofs.YtaaifdclojkdmaaDoor
