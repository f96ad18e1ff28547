/-
  DERIVED. GIVEN WITH THE SEED: THE CARDS: each row of YtkmgfleoondblaaDoorRows.lean that lists a variable, with what it lists TIED to the program's text (the seventh form; the later family's looks); each row that meets fmt, with fmt's text TOLD by the authors' own Lean function (tested against real Go, not proved from fmt's source: count such statements apart). THE CARD IS WHAT COUNTS. Prove the row's statement (the work); the ties are given (YtkmgfleoondblaaDoorTie.lean); close each card by the builder's one call (the guide's Derived/Test/ToyasCard.lean, 'card_holds'). Laid BY PROGRAM, IN A SANDBOX (cutbox-door.mjs). By AI agents, Wed Nov 11 2026. No macro, syntax, notation, axiom, sorry.
-/
import Derived.Test.YtkmgfleoondblaaDoorRows
import GoSem.ClaimSeven
namespace Go.Proofs.YtkmgfleoondblaaDoor
namespace Rows

/-- THE TIED CARD OF 'chamberlainlaw03.MsgPuts'. -/
def msgPutsCard : Claim7 := { stood := { row := msgPutsRow, standIns := [], harness := (true, "7242ace02ed7528fa88854aa8f3e901976bae7278800be57dc2e3c81a9ce6e2a"), looks := false }, kinds := [], alts := [], laidByText := true, laidKinds := [.data], laidTests := true, laidLooks := .later }
def MsgPutsCardSaid : Prop := Claim7.holds Tryd.pinned (.plain (OpenSpec.ofChange msgPutsSpec)) msgPutsCard

/-- THE TIED CARD OF 'chamberlainlaw03.MsgGets'. -/
def msgGetsCard : Claim7 := { stood := { row := msgGetsRow, standIns := [], harness := (true, "7242ace02ed7528fa88854aa8f3e901976bae7278800be57dc2e3c81a9ce6e2a"), looks := false }, kinds := [], alts := [], laidByText := true, laidKinds := [.data], laidTests := true, laidLooks := .later }
def MsgGetsCardSaid : Prop := Claim7.holds Tryd.pinned (.plain (OpenSpec.ofChange msgGetsSpec)) msgGetsCard

/-- THE TIED CARD OF 'chamberlainlaw03.MsgBack'. -/
def msgBackCard : Claim7 := { stood := { row := msgBackRow, standIns := [], harness := (true, "7242ace02ed7528fa88854aa8f3e901976bae7278800be57dc2e3c81a9ce6e2a"), looks := false }, kinds := [], alts := [], laidByText := true, laidKinds := [.data], laidTests := true, laidLooks := .later }
def MsgBackCardSaid : Prop := Claim7.holds Tryd.pinned (.plain (OpenSpec.ofChange msgBackSpec)) msgBackCard

/-- THE TIED CARD OF 'chamberlainlaw03.MsgSpoilt'. -/
def msgSpoiltCard : Claim7 := { stood := { row := msgSpoiltRow, standIns := [], harness := (true, "7242ace02ed7528fa88854aa8f3e901976bae7278800be57dc2e3c81a9ce6e2a"), looks := false }, kinds := [], alts := [], laidByText := true, laidKinds := [.data], laidTests := true, laidLooks := .later }
def MsgSpoiltCardSaid : Prop := Claim7.holds Tryd.pinned (.plain (OpenSpec.ofChange msgSpoiltSpec)) msgSpoiltCard

/-- THE TIED CARD OF 'chamberlainlaw03.MsgKeeps'. -/
def msgKeepsCard : Claim7 := { stood := { row := msgKeepsRow, standIns := [], harness := (true, "7242ace02ed7528fa88854aa8f3e901976bae7278800be57dc2e3c81a9ce6e2a"), looks := false }, kinds := [], alts := [], laidByText := true, laidKinds := [.data], laidTests := true, laidLooks := .later }
def MsgKeepsCardSaid : Prop := Claim7.holds Tryd.pinned (.plain (OpenSpec.ofChange msgKeepsSpec)) msgKeepsCard

/-- THE SECOND FORM's CARD OF 'chamberlainlaw03.MsgPuts'. -/
def msgPutsUptoCard : Claim7 := { stood := { row := msgPutsUptoRow, standIns := [], harness := (true, "7242ace02ed7528fa88854aa8f3e901976bae7278800be57dc2e3c81a9ce6e2a"), looks := false }, kinds := [], alts := [], laidByText := true, laidKinds := [.data], laidTests := true, laidLooks := .later }
def MsgPutsUptoCardSaid : Prop := Claim7.holds Tryd.pinned (.plain (OpenSpec.upto msgPutsSpec)) msgPutsUptoCard

/-- THE SECOND FORM's CARD OF 'chamberlainlaw03.MsgGets'. -/
def msgGetsUptoCard : Claim7 := { stood := { row := msgGetsUptoRow, standIns := [], harness := (true, "7242ace02ed7528fa88854aa8f3e901976bae7278800be57dc2e3c81a9ce6e2a"), looks := false }, kinds := [], alts := [], laidByText := true, laidKinds := [.data], laidTests := true, laidLooks := .later }
def MsgGetsUptoCardSaid : Prop := Claim7.holds Tryd.pinned (.plain (OpenSpec.upto msgGetsSpec)) msgGetsUptoCard

/-- THE SECOND FORM's CARD OF 'chamberlainlaw03.MsgBack'. -/
def msgBackUptoCard : Claim7 := { stood := { row := msgBackUptoRow, standIns := [], harness := (true, "7242ace02ed7528fa88854aa8f3e901976bae7278800be57dc2e3c81a9ce6e2a"), looks := false }, kinds := [], alts := [], laidByText := true, laidKinds := [.data], laidTests := true, laidLooks := .later }
def MsgBackUptoCardSaid : Prop := Claim7.holds Tryd.pinned (.plain (OpenSpec.upto msgBackSpec)) msgBackUptoCard

/-- THE SECOND FORM's CARD OF 'chamberlainlaw03.MsgSpoilt'. -/
def msgSpoiltUptoCard : Claim7 := { stood := { row := msgSpoiltUptoRow, standIns := [], harness := (true, "7242ace02ed7528fa88854aa8f3e901976bae7278800be57dc2e3c81a9ce6e2a"), looks := false }, kinds := [], alts := [], laidByText := true, laidKinds := [.data], laidTests := true, laidLooks := .later }
def MsgSpoiltUptoCardSaid : Prop := Claim7.holds Tryd.pinned (.plain (OpenSpec.upto msgSpoiltSpec)) msgSpoiltUptoCard

/-- THE SECOND FORM's CARD OF 'chamberlainlaw03.MsgKeeps'. -/
def msgKeepsUptoCard : Claim7 := { stood := { row := msgKeepsUptoRow, standIns := [], harness := (true, "7242ace02ed7528fa88854aa8f3e901976bae7278800be57dc2e3c81a9ce6e2a"), looks := false }, kinds := [], alts := [], laidByText := true, laidKinds := [.data], laidTests := true, laidLooks := .later }
def MsgKeepsUptoCardSaid : Prop := Claim7.holds Tryd.pinned (.plain (OpenSpec.upto msgKeepsSpec)) msgKeepsUptoCard
end Rows
end Go.Proofs.YtkmgfleoondblaaDoor
