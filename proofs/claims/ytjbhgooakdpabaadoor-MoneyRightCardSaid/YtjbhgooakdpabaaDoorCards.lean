/-
  DERIVED. GIVEN WITH THE SEED: THE CARDS: each row of YtjbhgooakdpabaaDoorRows.lean that lists a variable, with what it lists TIED to the program's text (the seventh form; the later family's looks); each row that meets fmt, with fmt's text TOLD by the authors' own Lean function (tested against real Go, not proved from fmt's source: count such statements apart). THE CARD IS WHAT COUNTS. Prove the row's statement (the work); the ties are given (YtjbhgooakdpabaaDoorTie.lean); close each card by the builder's one call (the guide's Derived/Test/ToyasCard.lean, 'card_holds'). Laid BY PROGRAM, IN A SANDBOX (cutbox-door.mjs). By AI agents, Wed Nov 11 2026. No macro, syntax, notation, axiom, sorry.
-/
import Derived.Test.YtjbhgooakdpabaaDoorRows
import GoSem.ClaimSeven
namespace Go.Proofs.YtjbhgooakdpabaaDoor
namespace Rows

/-- THE TIED CARD OF 'guichetlaw16.MoneyTexts'. -/
def moneyTextsCard : Claim7 := { stood := { row := moneyTextsRow, standIns := [], harness := (true, "b9e434d37b08edd1d0fb6cc1ddc690d0e26e917712ef9cbf664d24bf55d54e89"), looks := true }, kinds := [], alts := [], laidByText := true, laidKinds := [.data, .data, .data, .sentinel, .sentinel], laidTests := true, laidLooks := .later }
def MoneyTextsCardSaid : Prop := Claim7.holds Tryd.pinned (.plain (OpenSpec.ofChange moneyTextsSpec)) moneyTextsCard

/-- THE TIED CARD OF 'guichetlaw16.MoneyRight'. -/
def moneyRightCard : Claim7 := { stood := { row := moneyRightRow, standIns := [], harness := (true, "b9e434d37b08edd1d0fb6cc1ddc690d0e26e917712ef9cbf664d24bf55d54e89"), looks := true }, kinds := [], alts := [], laidByText := true, laidKinds := [.data, .data, .data, .sentinel, .sentinel], laidTests := true, laidLooks := .later }
def MoneyRightCardSaid : Prop := Claim7.holds Tryd.pinned (.plain (OpenSpec.ofChange moneyRightSpec)) moneyRightCard

/-- THE TIED CARD OF 'guichetlaw16.MoneyPoints'. -/
def moneyPointsCard : Claim7 := { stood := { row := moneyPointsRow, standIns := [], harness := (true, "b9e434d37b08edd1d0fb6cc1ddc690d0e26e917712ef9cbf664d24bf55d54e89"), looks := true }, kinds := [], alts := [], laidByText := true, laidKinds := [.data, .data, .data, .sentinel, .sentinel], laidTests := true, laidLooks := .later }
def MoneyPointsCardSaid : Prop := Claim7.holds Tryd.pinned (.plain (OpenSpec.ofChange moneyPointsSpec)) moneyPointsCard

/-- THE SECOND FORM's CARD OF 'guichetlaw16.MoneyTexts'. -/
def moneyTextsUptoCard : Claim7 := { stood := { row := moneyTextsUptoRow, standIns := [], harness := (true, "b9e434d37b08edd1d0fb6cc1ddc690d0e26e917712ef9cbf664d24bf55d54e89"), looks := true }, kinds := [], alts := [], laidByText := true, laidKinds := [.data, .data, .data, .sentinel, .sentinel], laidTests := true, laidLooks := .later }
def MoneyTextsUptoCardSaid : Prop := Claim7.holds Tryd.pinned (.plain (OpenSpec.upto moneyTextsSpec)) moneyTextsUptoCard

/-- THE SECOND FORM's CARD OF 'guichetlaw16.MoneyRight'. -/
def moneyRightUptoCard : Claim7 := { stood := { row := moneyRightUptoRow, standIns := [], harness := (true, "b9e434d37b08edd1d0fb6cc1ddc690d0e26e917712ef9cbf664d24bf55d54e89"), looks := true }, kinds := [], alts := [], laidByText := true, laidKinds := [.data, .data, .data, .sentinel, .sentinel], laidTests := true, laidLooks := .later }
def MoneyRightUptoCardSaid : Prop := Claim7.holds Tryd.pinned (.plain (OpenSpec.upto moneyRightSpec)) moneyRightUptoCard

/-- THE SECOND FORM's CARD OF 'guichetlaw16.MoneyPoints'. -/
def moneyPointsUptoCard : Claim7 := { stood := { row := moneyPointsUptoRow, standIns := [], harness := (true, "b9e434d37b08edd1d0fb6cc1ddc690d0e26e917712ef9cbf664d24bf55d54e89"), looks := true }, kinds := [], alts := [], laidByText := true, laidKinds := [.data, .data, .data, .sentinel, .sentinel], laidTests := true, laidLooks := .later }
def MoneyPointsUptoCardSaid : Prop := Claim7.holds Tryd.pinned (.plain (OpenSpec.upto moneyPointsSpec)) moneyPointsUptoCard
end Rows
end Go.Proofs.YtjbhgooakdpabaaDoor
