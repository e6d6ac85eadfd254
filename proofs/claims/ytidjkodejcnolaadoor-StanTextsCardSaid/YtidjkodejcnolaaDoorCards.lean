/-
  DERIVED. GIVEN WITH THE SEED: THE CARDS: each row of YtidjkodejcnolaaDoorRows.lean that lists a variable, with what it lists TIED to the program's text (the seventh form; the later family's looks); each row that meets fmt, with fmt's text TOLD by the authors' own Lean function (tested against real Go, not proved from fmt's source: count such statements apart). THE CARD IS WHAT COUNTS. Prove the row's statement (the work); the ties are given (YtidjkodejcnolaaDoorTie.lean); close each card by the builder's one call (the guide's Derived/Test/ToyasCard.lean, 'card_holds'). Laid BY PROGRAM, IN A SANDBOX (cutbox-door.mjs). By AI agents, Wed Nov 11 2026. No macro, syntax, notation, axiom, sorry.
-/
import Derived.Test.YtidjkodejcnolaaDoorRows
import GoSem.ClaimSeven
namespace Go.Proofs.YtidjkodejcnolaaDoor
namespace Rows

/-- THE TIED CARD OF 'guichetlaw10.StanTexts'. -/
def stanTextsCard : Claim7 := { stood := { row := stanTextsRow, standIns := [], harness := (true, "977d202d9393360b2421729444bdd48913f4917ce45a67bd59607970097ed9b6"), looks := true }, kinds := [], alts := [], laidByText := true, laidKinds := [.data, .data, .data, .sentinel, .sentinel], laidTests := true, laidLooks := .later }
def StanTextsCardSaid : Prop := Claim7.holds Tryd.pinned (.plain (OpenSpec.ofChange stanTextsSpec)) stanTextsCard

/-- THE TIED CARD OF 'guichetlaw10.StanLine'. -/
def stanLineCard : Claim7 := { stood := { row := stanLineRow, standIns := [], harness := (true, "977d202d9393360b2421729444bdd48913f4917ce45a67bd59607970097ed9b6"), looks := true }, kinds := [], alts := [], laidByText := true, laidKinds := [.data, .data, .data, .sentinel, .sentinel], laidTests := true, laidLooks := .later }
def StanLineCardSaid : Prop := Claim7.holds Tryd.pinned (.plain (OpenSpec.ofChange stanLineSpec)) stanLineCard

/-- THE TIED CARD OF 'guichetlaw10.StanPlays'. -/
def stanPlaysCard : Claim7 := { stood := { row := stanPlaysRow, standIns := [], harness := (true, "977d202d9393360b2421729444bdd48913f4917ce45a67bd59607970097ed9b6"), looks := true }, kinds := [], alts := [], laidByText := true, laidKinds := [.data, .data, .data, .sentinel, .sentinel], laidTests := true, laidLooks := .later }
def StanPlaysCardSaid : Prop := Claim7.holds Tryd.pinned (.plain (OpenSpec.ofChange stanPlaysSpec)) stanPlaysCard

/-- THE SECOND FORM's CARD OF 'guichetlaw10.StanTexts'. -/
def stanTextsUptoCard : Claim7 := { stood := { row := stanTextsUptoRow, standIns := [], harness := (true, "977d202d9393360b2421729444bdd48913f4917ce45a67bd59607970097ed9b6"), looks := true }, kinds := [], alts := [], laidByText := true, laidKinds := [.data, .data, .data, .sentinel, .sentinel], laidTests := true, laidLooks := .later }
def StanTextsUptoCardSaid : Prop := Claim7.holds Tryd.pinned (.plain (OpenSpec.upto stanTextsSpec)) stanTextsUptoCard

/-- THE SECOND FORM's CARD OF 'guichetlaw10.StanLine'. -/
def stanLineUptoCard : Claim7 := { stood := { row := stanLineUptoRow, standIns := [], harness := (true, "977d202d9393360b2421729444bdd48913f4917ce45a67bd59607970097ed9b6"), looks := true }, kinds := [], alts := [], laidByText := true, laidKinds := [.data, .data, .data, .sentinel, .sentinel], laidTests := true, laidLooks := .later }
def StanLineUptoCardSaid : Prop := Claim7.holds Tryd.pinned (.plain (OpenSpec.upto stanLineSpec)) stanLineUptoCard

/-- THE SECOND FORM's CARD OF 'guichetlaw10.StanPlays'. -/
def stanPlaysUptoCard : Claim7 := { stood := { row := stanPlaysUptoRow, standIns := [], harness := (true, "977d202d9393360b2421729444bdd48913f4917ce45a67bd59607970097ed9b6"), looks := true }, kinds := [], alts := [], laidByText := true, laidKinds := [.data, .data, .data, .sentinel, .sentinel], laidTests := true, laidLooks := .later }
def StanPlaysUptoCardSaid : Prop := Claim7.holds Tryd.pinned (.plain (OpenSpec.upto stanPlaysSpec)) stanPlaysUptoCard
end Rows
end Go.Proofs.YtidjkodejcnolaaDoor
