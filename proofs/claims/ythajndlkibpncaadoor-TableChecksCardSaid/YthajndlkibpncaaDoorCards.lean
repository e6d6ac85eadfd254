/-
  DERIVED. GIVEN WITH THE SEED: THE CARDS: each row of YthajndlkibpncaaDoorRows.lean that lists a variable, with what it lists TIED to the program's text (the seventh form; the later family's looks); each row that meets fmt, with fmt's text TOLD by the authors' own Lean function (tested against real Go, not proved from fmt's source: count such statements apart). THE CARD IS WHAT COUNTS. Prove the row's statement (the work); the ties are given (YthajndlkibpncaaDoorTie.lean); close each card by the builder's one call (the guide's Derived/Test/ToyasCard.lean, 'card_holds'). Laid BY PROGRAM, IN A SANDBOX (cutbox-door.mjs). By AI agents, Wed Nov 11 2026. No macro, syntax, notation, axiom, sorry.
-/
import Derived.Test.YthajndlkibpncaaDoorRows
import GoSem.ClaimSeven
namespace Go.Proofs.YthajndlkibpncaaDoor
namespace Rows

/-- THE TIED CARD OF 'guichetlaw14.TableChecks'. -/
def tableChecksCard : Claim7 := { stood := { row := tableChecksRow, standIns := [], harness := (true, "5471b4aeabb2ff44d9aa7845eb595663c8392b2e7542ddaeaa0c8cb3b605e086"), looks := true }, kinds := [], alts := [], laidByText := true, laidKinds := [.data, .data, .data, .sentinel, .sentinel], laidTests := true, laidLooks := .later }
def TableChecksCardSaid : Prop := Claim7.holds Tryd.pinned (.plain (OpenSpec.ofChange tableChecksSpec)) tableChecksCard

/-- THE TIED CARD OF 'guichetlaw14.TableTexts'. -/
def tableTextsCard : Claim7 := { stood := { row := tableTextsRow, standIns := [], harness := (true, "5471b4aeabb2ff44d9aa7845eb595663c8392b2e7542ddaeaa0c8cb3b605e086"), looks := true }, kinds := [], alts := [], laidByText := true, laidKinds := [.data, .data, .data, .sentinel, .sentinel], laidTests := true, laidLooks := .later }
def TableTextsCardSaid : Prop := Claim7.holds Tryd.pinned (.plain (OpenSpec.ofChange tableTextsSpec)) tableTextsCard

/-- THE TIED CARD OF 'guichetlaw14.TableLong'. -/
def tableLongCard : Claim7 := { stood := { row := tableLongRow, standIns := [], harness := (true, "5471b4aeabb2ff44d9aa7845eb595663c8392b2e7542ddaeaa0c8cb3b605e086"), looks := true }, kinds := [], alts := [], laidByText := true, laidKinds := [.data, .data, .data, .sentinel, .sentinel], laidTests := true, laidLooks := .later }
def TableLongCardSaid : Prop := Claim7.holds Tryd.pinned (.plain (OpenSpec.ofChange tableLongSpec)) tableLongCard

/-- THE TIED CARD OF 'guichetlaw14.TableWays'. -/
def tableWaysCard : Claim7 := { stood := { row := tableWaysRow, standIns := [], harness := (true, "5471b4aeabb2ff44d9aa7845eb595663c8392b2e7542ddaeaa0c8cb3b605e086"), looks := true }, kinds := [], alts := [], laidByText := true, laidKinds := [.data, .data, .data, .sentinel, .sentinel], laidTests := true, laidLooks := .later }
def TableWaysCardSaid : Prop := Claim7.holds Tryd.pinned (.plain (OpenSpec.ofChange tableWaysSpec)) tableWaysCard

/-- THE SECOND FORM's CARD OF 'guichetlaw14.TableChecks'. -/
def tableChecksUptoCard : Claim7 := { stood := { row := tableChecksUptoRow, standIns := [], harness := (true, "5471b4aeabb2ff44d9aa7845eb595663c8392b2e7542ddaeaa0c8cb3b605e086"), looks := true }, kinds := [], alts := [], laidByText := true, laidKinds := [.data, .data, .data, .sentinel, .sentinel], laidTests := true, laidLooks := .later }
def TableChecksUptoCardSaid : Prop := Claim7.holds Tryd.pinned (.plain (OpenSpec.upto tableChecksSpec)) tableChecksUptoCard

/-- THE SECOND FORM's CARD OF 'guichetlaw14.TableTexts'. -/
def tableTextsUptoCard : Claim7 := { stood := { row := tableTextsUptoRow, standIns := [], harness := (true, "5471b4aeabb2ff44d9aa7845eb595663c8392b2e7542ddaeaa0c8cb3b605e086"), looks := true }, kinds := [], alts := [], laidByText := true, laidKinds := [.data, .data, .data, .sentinel, .sentinel], laidTests := true, laidLooks := .later }
def TableTextsUptoCardSaid : Prop := Claim7.holds Tryd.pinned (.plain (OpenSpec.upto tableTextsSpec)) tableTextsUptoCard

/-- THE SECOND FORM's CARD OF 'guichetlaw14.TableLong'. -/
def tableLongUptoCard : Claim7 := { stood := { row := tableLongUptoRow, standIns := [], harness := (true, "5471b4aeabb2ff44d9aa7845eb595663c8392b2e7542ddaeaa0c8cb3b605e086"), looks := true }, kinds := [], alts := [], laidByText := true, laidKinds := [.data, .data, .data, .sentinel, .sentinel], laidTests := true, laidLooks := .later }
def TableLongUptoCardSaid : Prop := Claim7.holds Tryd.pinned (.plain (OpenSpec.upto tableLongSpec)) tableLongUptoCard

/-- THE SECOND FORM's CARD OF 'guichetlaw14.TableWays'. -/
def tableWaysUptoCard : Claim7 := { stood := { row := tableWaysUptoRow, standIns := [], harness := (true, "5471b4aeabb2ff44d9aa7845eb595663c8392b2e7542ddaeaa0c8cb3b605e086"), looks := true }, kinds := [], alts := [], laidByText := true, laidKinds := [.data, .data, .data, .sentinel, .sentinel], laidTests := true, laidLooks := .later }
def TableWaysUptoCardSaid : Prop := Claim7.holds Tryd.pinned (.plain (OpenSpec.upto tableWaysSpec)) tableWaysUptoCard
end Rows
end Go.Proofs.YthajndlkibpncaaDoor
