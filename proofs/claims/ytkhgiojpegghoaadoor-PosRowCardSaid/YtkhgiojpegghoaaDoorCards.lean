/-
  DERIVED. GIVEN WITH THE SEED: THE CARDS: each row of YtkhgiojpegghoaaDoorRows.lean that lists a variable, with what it lists TIED to the program's text (the seventh form; the later family's looks); each row that meets fmt, with fmt's text TOLD by the authors' own Lean function (tested against real Go, not proved from fmt's source: count such statements apart). THE CARD IS WHAT COUNTS. Prove the row's statement (the work); the ties are given (YtkhgiojpegghoaaDoorTie.lean); close each card by the builder's one call (the guide's Derived/Test/ToyasCard.lean, 'card_holds'). Laid BY PROGRAM, IN A SANDBOX (cutbox-door.mjs). By AI agents, Wed Nov 11 2026. No macro, syntax, notation, axiom, sorry.
-/
import Derived.Test.YtkhgiojpegghoaaDoorRows
import GoSem.ClaimSeven
namespace Go.Proofs.YtkhgiojpegghoaaDoor
namespace Rows

/-- THE TIED CARD OF 'guichetlaw13.PosBack'. -/
def posBackCard : Claim7 := { stood := { row := posBackRow, standIns := [], harness := (true, "8f91e2bf62f97e2e9aa11dddcf067952feb6be8358272b2185ad1a25de5fd9a9"), looks := true }, kinds := [], alts := [], laidByText := true, laidKinds := [.data, .data, .data, .sentinel, .sentinel], laidTests := true, laidLooks := .later }
def PosBackCardSaid : Prop := Claim7.holds Tryd.pinned (.plain (OpenSpec.ofChange posBackSpec)) posBackCard

/-- THE TIED CARD OF 'guichetlaw13.PosReads'. -/
def posReadsCard : Claim7 := { stood := { row := posReadsRow, standIns := [], harness := (true, "8f91e2bf62f97e2e9aa11dddcf067952feb6be8358272b2185ad1a25de5fd9a9"), looks := true }, kinds := [], alts := [], laidByText := true, laidKinds := [.data, .data, .data, .sentinel, .sentinel], laidTests := true, laidLooks := .later }
def PosReadsCardSaid : Prop := Claim7.holds Tryd.pinned (.plain (OpenSpec.ofChange posReadsSpec)) posReadsCard

/-- THE TIED CARD OF 'guichetlaw13.PosRow'. -/
def posRowCard : Claim7 := { stood := { row := posRowRow, standIns := [], harness := (true, "8f91e2bf62f97e2e9aa11dddcf067952feb6be8358272b2185ad1a25de5fd9a9"), looks := true }, kinds := [], alts := [], laidByText := true, laidKinds := [.data, .data, .data, .sentinel, .sentinel], laidTests := true, laidLooks := .later }
def PosRowCardSaid : Prop := Claim7.holds Tryd.pinned (.plain (OpenSpec.ofChange posRowSpec)) posRowCard

/-- THE SECOND FORM's CARD OF 'guichetlaw13.PosBack'. -/
def posBackUptoCard : Claim7 := { stood := { row := posBackUptoRow, standIns := [], harness := (true, "8f91e2bf62f97e2e9aa11dddcf067952feb6be8358272b2185ad1a25de5fd9a9"), looks := true }, kinds := [], alts := [], laidByText := true, laidKinds := [.data, .data, .data, .sentinel, .sentinel], laidTests := true, laidLooks := .later }
def PosBackUptoCardSaid : Prop := Claim7.holds Tryd.pinned (.plain (OpenSpec.upto posBackSpec)) posBackUptoCard

/-- THE SECOND FORM's CARD OF 'guichetlaw13.PosReads'. -/
def posReadsUptoCard : Claim7 := { stood := { row := posReadsUptoRow, standIns := [], harness := (true, "8f91e2bf62f97e2e9aa11dddcf067952feb6be8358272b2185ad1a25de5fd9a9"), looks := true }, kinds := [], alts := [], laidByText := true, laidKinds := [.data, .data, .data, .sentinel, .sentinel], laidTests := true, laidLooks := .later }
def PosReadsUptoCardSaid : Prop := Claim7.holds Tryd.pinned (.plain (OpenSpec.upto posReadsSpec)) posReadsUptoCard

/-- THE SECOND FORM's CARD OF 'guichetlaw13.PosRow'. -/
def posRowUptoCard : Claim7 := { stood := { row := posRowUptoRow, standIns := [], harness := (true, "8f91e2bf62f97e2e9aa11dddcf067952feb6be8358272b2185ad1a25de5fd9a9"), looks := true }, kinds := [], alts := [], laidByText := true, laidKinds := [.data, .data, .data, .sentinel, .sentinel], laidTests := true, laidLooks := .later }
def PosRowUptoCardSaid : Prop := Claim7.holds Tryd.pinned (.plain (OpenSpec.upto posRowSpec)) posRowUptoCard
end Rows
end Go.Proofs.YtkhgiojpegghoaaDoor
