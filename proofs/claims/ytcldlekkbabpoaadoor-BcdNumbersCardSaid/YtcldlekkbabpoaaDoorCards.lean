/-
  DERIVED. GIVEN WITH THE SEED: THE CARDS: each row of YtcldlekkbabpoaaDoorRows.lean that lists a variable, with what it lists TIED to the program's text (the seventh form; the later family's looks); each row that meets fmt, with fmt's text TOLD by the authors' own Lean function (tested against real Go, not proved from fmt's source: count such statements apart). THE CARD IS WHAT COUNTS. Prove the row's statement (the work); the ties are given (YtcldlekkbabpoaaDoorTie.lean); close each card by the builder's one call (the guide's Derived/Test/ToyasCard.lean, 'card_holds'). Laid BY PROGRAM, IN A SANDBOX (cutbox-door.mjs). By AI agents, Wed Nov 11 2026. No macro, syntax, notation, axiom, sorry.
-/
import Derived.Test.YtcldlekkbabpoaaDoorRows
import GoSem.ClaimSeven
namespace Go.Proofs.YtcldlekkbabpoaaDoor
namespace Rows

/-- THE TIED CARD OF 'guichetlaw6.BcdNumbers'. -/
def bcdNumbersCard : Claim7 := { stood := { row := bcdNumbersRow, standIns := [], harness := (true, "880dc3b5f3d13eb71e7dba0b08bcf663e3c714f74063be448635ba522f36ec76"), looks := true }, kinds := [], alts := [], laidByText := true, laidKinds := [.data, .data, .data, .sentinel, .sentinel], laidTests := true, laidLooks := .later }
def BcdNumbersCardSaid : Prop := Claim7.holds Tryd.pinned (.plain (OpenSpec.ofChange bcdNumbersSpec)) bcdNumbersCard

/-- THE TIED CARD OF 'guichetlaw6.BcdHalves'. -/
def bcdHalvesCard : Claim7 := { stood := { row := bcdHalvesRow, standIns := [], harness := (true, "880dc3b5f3d13eb71e7dba0b08bcf663e3c714f74063be448635ba522f36ec76"), looks := true }, kinds := [], alts := [], laidByText := true, laidKinds := [.data, .data, .data, .sentinel, .sentinel], laidTests := true, laidLooks := .later }
def BcdHalvesCardSaid : Prop := Claim7.holds Tryd.pinned (.plain (OpenSpec.ofChange bcdHalvesSpec)) bcdHalvesCard

/-- THE TIED CARD OF 'guichetlaw6.BcdZeros'. -/
def bcdZerosCard : Claim7 := { stood := { row := bcdZerosRow, standIns := [], harness := (true, "880dc3b5f3d13eb71e7dba0b08bcf663e3c714f74063be448635ba522f36ec76"), looks := true }, kinds := [], alts := [], laidByText := true, laidKinds := [.data, .data, .data, .sentinel, .sentinel], laidTests := true, laidLooks := .later }
def BcdZerosCardSaid : Prop := Claim7.holds Tryd.pinned (.plain (OpenSpec.ofChange bcdZerosSpec)) bcdZerosCard

/-- THE SECOND FORM's CARD OF 'guichetlaw6.BcdNumbers'. -/
def bcdNumbersUptoCard : Claim7 := { stood := { row := bcdNumbersUptoRow, standIns := [], harness := (true, "880dc3b5f3d13eb71e7dba0b08bcf663e3c714f74063be448635ba522f36ec76"), looks := true }, kinds := [], alts := [], laidByText := true, laidKinds := [.data, .data, .data, .sentinel, .sentinel], laidTests := true, laidLooks := .later }
def BcdNumbersUptoCardSaid : Prop := Claim7.holds Tryd.pinned (.plain (OpenSpec.upto bcdNumbersSpec)) bcdNumbersUptoCard

/-- THE SECOND FORM's CARD OF 'guichetlaw6.BcdHalves'. -/
def bcdHalvesUptoCard : Claim7 := { stood := { row := bcdHalvesUptoRow, standIns := [], harness := (true, "880dc3b5f3d13eb71e7dba0b08bcf663e3c714f74063be448635ba522f36ec76"), looks := true }, kinds := [], alts := [], laidByText := true, laidKinds := [.data, .data, .data, .sentinel, .sentinel], laidTests := true, laidLooks := .later }
def BcdHalvesUptoCardSaid : Prop := Claim7.holds Tryd.pinned (.plain (OpenSpec.upto bcdHalvesSpec)) bcdHalvesUptoCard

/-- THE SECOND FORM's CARD OF 'guichetlaw6.BcdZeros'. -/
def bcdZerosUptoCard : Claim7 := { stood := { row := bcdZerosUptoRow, standIns := [], harness := (true, "880dc3b5f3d13eb71e7dba0b08bcf663e3c714f74063be448635ba522f36ec76"), looks := true }, kinds := [], alts := [], laidByText := true, laidKinds := [.data, .data, .data, .sentinel, .sentinel], laidTests := true, laidLooks := .later }
def BcdZerosUptoCardSaid : Prop := Claim7.holds Tryd.pinned (.plain (OpenSpec.upto bcdZerosSpec)) bcdZerosUptoCard
end Rows
end Go.Proofs.YtcldlekkbabpoaaDoor
