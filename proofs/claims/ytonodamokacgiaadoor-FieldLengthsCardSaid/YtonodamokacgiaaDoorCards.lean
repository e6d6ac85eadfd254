/-
  DERIVED. GIVEN WITH THE SEED: THE CARDS: each row of YtonodamokacgiaaDoorRows.lean that lists a variable, with what it lists TIED to the program's text (the seventh form; the later family's looks); each row that meets fmt, with fmt's text TOLD by the authors' own Lean function (tested against real Go, not proved from fmt's source: count such statements apart). THE CARD IS WHAT COUNTS. Prove the row's statement (the work); the ties are given (YtonodamokacgiaaDoorTie.lean); close each card by the builder's one call (the guide's Derived/Test/ToyasCard.lean, 'card_holds'). Laid BY PROGRAM, IN A SANDBOX (cutbox-door.mjs). By AI agents, Wed Nov 11 2026. No macro, syntax, notation, axiom, sorry.
-/
import Derived.Test.YtonodamokacgiaaDoorRows
import GoSem.ClaimSeven
namespace Go.Proofs.YtonodamokacgiaaDoor
namespace Rows

/-- THE TIED CARD OF 'guichetlaw8.FieldForms'. -/
def fieldFormsCard : Claim7 := { stood := { row := fieldFormsRow, standIns := [], harness := (true, "4a973ea3ab119ee237471baf3a2fb4754040483528989e64eebe3c265aeb6f7c"), looks := true }, kinds := [], alts := [], laidByText := true, laidKinds := [.data, .data, .data, .sentinel, .sentinel], laidTests := true, laidLooks := .later }
def FieldFormsCardSaid : Prop := Claim7.holds Tryd.pinned (.plain (OpenSpec.ofChange fieldFormsSpec)) fieldFormsCard

/-- THE TIED CARD OF 'guichetlaw8.FieldLengths'. -/
def fieldLengthsCard : Claim7 := { stood := { row := fieldLengthsRow, standIns := [], harness := (true, "4a973ea3ab119ee237471baf3a2fb4754040483528989e64eebe3c265aeb6f7c"), looks := true }, kinds := [], alts := [], laidByText := true, laidKinds := [.data, .data, .data, .sentinel, .sentinel], laidTests := true, laidLooks := .later }
def FieldLengthsCardSaid : Prop := Claim7.holds Tryd.pinned (.plain (OpenSpec.ofChange fieldLengthsSpec)) fieldLengthsCard

/-- THE SECOND FORM's CARD OF 'guichetlaw8.FieldForms'. -/
def fieldFormsUptoCard : Claim7 := { stood := { row := fieldFormsUptoRow, standIns := [], harness := (true, "4a973ea3ab119ee237471baf3a2fb4754040483528989e64eebe3c265aeb6f7c"), looks := true }, kinds := [], alts := [], laidByText := true, laidKinds := [.data, .data, .data, .sentinel, .sentinel], laidTests := true, laidLooks := .later }
def FieldFormsUptoCardSaid : Prop := Claim7.holds Tryd.pinned (.plain (OpenSpec.upto fieldFormsSpec)) fieldFormsUptoCard

/-- THE SECOND FORM's CARD OF 'guichetlaw8.FieldLengths'. -/
def fieldLengthsUptoCard : Claim7 := { stood := { row := fieldLengthsUptoRow, standIns := [], harness := (true, "4a973ea3ab119ee237471baf3a2fb4754040483528989e64eebe3c265aeb6f7c"), looks := true }, kinds := [], alts := [], laidByText := true, laidKinds := [.data, .data, .data, .sentinel, .sentinel], laidTests := true, laidLooks := .later }
def FieldLengthsUptoCardSaid : Prop := Claim7.holds Tryd.pinned (.plain (OpenSpec.upto fieldLengthsSpec)) fieldLengthsUptoCard
end Rows
end Go.Proofs.YtonodamokacgiaaDoor
