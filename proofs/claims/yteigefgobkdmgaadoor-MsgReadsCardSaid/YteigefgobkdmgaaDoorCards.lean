/-
  DERIVED. GIVEN WITH THE SEED: THE CARDS: each row of YteigefgobkdmgaaDoorRows.lean that lists a variable, with what it lists TIED to the program's text (the seventh form; the later family's looks); each row that meets fmt, with fmt's text TOLD by the authors' own Lean function (tested against real Go, not proved from fmt's source: count such statements apart). THE CARD IS WHAT COUNTS. Prove the row's statement (the work); the ties are given (YteigefgobkdmgaaDoorTie.lean); close each card by the builder's one call (the guide's Derived/Test/ToyasCard.lean, 'card_holds'). Laid BY PROGRAM, IN A SANDBOX (cutbox-door.mjs). By AI agents, Wed Nov 11 2026. No macro, syntax, notation, axiom, sorry.
-/
import Derived.Test.YteigefgobkdmgaaDoorRows
import GoSem.ClaimSeven
namespace Go.Proofs.YteigefgobkdmgaaDoor
namespace Rows

/-- THE TIED CARD OF 'guichetlaw12.MsgBack'. -/
def msgBackCard : Claim7 := { stood := { row := msgBackRow, standIns := [], harness := (true, "1b93e6649467937dc11d5103653e4cbe1f2a4d61aec414c3f70a521379b88323"), looks := true }, kinds := [], alts := [], laidByText := true, laidKinds := [.data, .data, .data, .data, .sentinel, .sentinel, .pinned], laidTests := true, laidLooks := .later }
def MsgBackCardSaid : Prop := Claim7.holds Tryd.pinned (.plain (OpenSpec.ofChange msgBackSpec)) msgBackCard

/-- THE TIED CARD OF 'guichetlaw12.MsgReads'. -/
def msgReadsCard : Claim7 := { stood := { row := msgReadsRow, standIns := [], harness := (true, "1b93e6649467937dc11d5103653e4cbe1f2a4d61aec414c3f70a521379b88323"), looks := true }, kinds := [], alts := [], laidByText := true, laidKinds := [.data, .data, .data, .data, .sentinel, .sentinel, .pinned], laidTests := true, laidLooks := .later }
def MsgReadsCardSaid : Prop := Claim7.holds Tryd.pinned (.plain (OpenSpec.ofChange msgReadsSpec)) msgReadsCard

/-- THE TIED CARD OF 'guichetlaw12.MsgFields'. -/
def msgFieldsCard : Claim7 := { stood := { row := msgFieldsRow, standIns := [], harness := (true, "1b93e6649467937dc11d5103653e4cbe1f2a4d61aec414c3f70a521379b88323"), looks := true }, kinds := [], alts := [], laidByText := true, laidKinds := [.data, .data, .data, .data, .sentinel, .sentinel, .pinned], laidTests := true, laidLooks := .later }
def MsgFieldsCardSaid : Prop := Claim7.holds Tryd.pinned (.plain (OpenSpec.ofChange msgFieldsSpec)) msgFieldsCard

/-- THE TIED CARD OF 'guichetlaw12.MsgKinds'. -/
def msgKindsCard : Claim7 := { stood := { row := msgKindsRow, standIns := [], harness := (true, "1b93e6649467937dc11d5103653e4cbe1f2a4d61aec414c3f70a521379b88323"), looks := true }, kinds := [], alts := [], laidByText := true, laidKinds := [.data, .data, .data, .data, .sentinel, .sentinel, .pinned], laidTests := true, laidLooks := .later }
def MsgKindsCardSaid : Prop := Claim7.holds Tryd.pinned (.plain (OpenSpec.ofChange msgKindsSpec)) msgKindsCard

/-- THE SECOND FORM's CARD OF 'guichetlaw12.MsgBack'. -/
def msgBackUptoCard : Claim7 := { stood := { row := msgBackUptoRow, standIns := [], harness := (true, "1b93e6649467937dc11d5103653e4cbe1f2a4d61aec414c3f70a521379b88323"), looks := true }, kinds := [], alts := [], laidByText := true, laidKinds := [.data, .data, .data, .data, .sentinel, .sentinel, .pinned], laidTests := true, laidLooks := .later }
def MsgBackUptoCardSaid : Prop := Claim7.holds Tryd.pinned (.plain (OpenSpec.upto msgBackSpec)) msgBackUptoCard

/-- THE SECOND FORM's CARD OF 'guichetlaw12.MsgReads'. -/
def msgReadsUptoCard : Claim7 := { stood := { row := msgReadsUptoRow, standIns := [], harness := (true, "1b93e6649467937dc11d5103653e4cbe1f2a4d61aec414c3f70a521379b88323"), looks := true }, kinds := [], alts := [], laidByText := true, laidKinds := [.data, .data, .data, .data, .sentinel, .sentinel, .pinned], laidTests := true, laidLooks := .later }
def MsgReadsUptoCardSaid : Prop := Claim7.holds Tryd.pinned (.plain (OpenSpec.upto msgReadsSpec)) msgReadsUptoCard

/-- THE SECOND FORM's CARD OF 'guichetlaw12.MsgFields'. -/
def msgFieldsUptoCard : Claim7 := { stood := { row := msgFieldsUptoRow, standIns := [], harness := (true, "1b93e6649467937dc11d5103653e4cbe1f2a4d61aec414c3f70a521379b88323"), looks := true }, kinds := [], alts := [], laidByText := true, laidKinds := [.data, .data, .data, .data, .sentinel, .sentinel, .pinned], laidTests := true, laidLooks := .later }
def MsgFieldsUptoCardSaid : Prop := Claim7.holds Tryd.pinned (.plain (OpenSpec.upto msgFieldsSpec)) msgFieldsUptoCard

/-- THE SECOND FORM's CARD OF 'guichetlaw12.MsgKinds'. -/
def msgKindsUptoCard : Claim7 := { stood := { row := msgKindsUptoRow, standIns := [], harness := (true, "1b93e6649467937dc11d5103653e4cbe1f2a4d61aec414c3f70a521379b88323"), looks := true }, kinds := [], alts := [], laidByText := true, laidKinds := [.data, .data, .data, .data, .sentinel, .sentinel, .pinned], laidTests := true, laidLooks := .later }
def MsgKindsUptoCardSaid : Prop := Claim7.holds Tryd.pinned (.plain (OpenSpec.upto msgKindsSpec)) msgKindsUptoCard
end Rows
end Go.Proofs.YteigefgobkdmgaaDoor
