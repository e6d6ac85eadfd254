/-
  DERIVED. GIVEN WITH THE SEED: THE CARDS: each row of YtbpkkgifjcpekaaDoorRows.lean that lists a variable, with what it lists TIED to the program's text (the seventh form; the later family's looks); each row that meets fmt, with fmt's text TOLD by the authors' own Lean function (tested against real Go, not proved from fmt's source: count such statements apart). THE CARD IS WHAT COUNTS. Prove the row's statement (the work); the ties are given (YtbpkkgifjcpekaaDoorTie.lean); close each card by the builder's one call (the guide's Derived/Test/ToyasCard.lean, 'card_holds'). Laid BY PROGRAM, IN A SANDBOX (cutbox-door.mjs). By AI agents, Wed Nov 11 2026. No macro, syntax, notation, axiom, sorry.
-/
import Derived.Test.YtbpkkgifjcpekaaDoorRows
import GoSem.ClaimSeven
namespace Go.Proofs.YtbpkkgifjcpekaaDoor
namespace Rows

/-- THE TIED CARD OF 'guichetlaw11.WireParts'. -/
def wirePartsCard : Claim7 := { stood := { row := wirePartsRow, standIns := [], harness := (true, "d3faf6bc52e9ebf32e70b394fde32786181e63ea04a1c61816ae7a9a4633a385"), looks := false }, kinds := [], alts := [], laidByText := true, laidKinds := [.data, .pinned], laidTests := true, laidLooks := .later }
def WirePartsCardSaid : Prop := Claim7.holds Tryd.pinned (.plain (OpenSpec.ofChange wirePartsSpec)) wirePartsCard

/-- THE TIED CARD OF 'guichetlaw11.WireFrames'. -/
def wireFramesCard : Claim7 := { stood := { row := wireFramesRow, standIns := [], harness := (true, "d3faf6bc52e9ebf32e70b394fde32786181e63ea04a1c61816ae7a9a4633a385"), looks := false }, kinds := [], alts := [], laidByText := true, laidKinds := [.data, .pinned], laidTests := true, laidLooks := .later }
def WireFramesCardSaid : Prop := Claim7.holds Tryd.pinned (.plain (OpenSpec.ofChange wireFramesSpec)) wireFramesCard

/-- THE TIED CARD OF 'guichetlaw11.WireReads'. -/
def wireReadsCard : Claim7 := { stood := { row := wireReadsRow, standIns := [], harness := (true, "d3faf6bc52e9ebf32e70b394fde32786181e63ea04a1c61816ae7a9a4633a385"), looks := false }, kinds := [], alts := [], laidByText := true, laidKinds := [.data, .pinned], laidTests := true, laidLooks := .later }
def WireReadsCardSaid : Prop := Claim7.holds Tryd.pinned (.plain (OpenSpec.ofChange wireReadsSpec)) wireReadsCard

/-- THE TIED CARD OF 'guichetlaw11.WireLong'. -/
def wireLongCard : Claim7 := { stood := { row := wireLongRow, standIns := [], harness := (true, "d3faf6bc52e9ebf32e70b394fde32786181e63ea04a1c61816ae7a9a4633a385"), looks := false }, kinds := [], alts := [], laidByText := true, laidKinds := [.data, .pinned], laidTests := true, laidLooks := .later }
def WireLongCardSaid : Prop := Claim7.holds Tryd.pinned (.plain (OpenSpec.ofChange wireLongSpec)) wireLongCard

/-- THE TIED CARD OF 'guichetlaw11.WireBad'. -/
def wireBadCard : Claim7 := { stood := { row := wireBadRow, standIns := [], harness := (true, "d3faf6bc52e9ebf32e70b394fde32786181e63ea04a1c61816ae7a9a4633a385"), looks := false }, kinds := [], alts := [], laidByText := true, laidKinds := [.data, .pinned], laidTests := true, laidLooks := .later }
def WireBadCardSaid : Prop := Claim7.holds Tryd.pinned (.plain (OpenSpec.ofChange wireBadSpec)) wireBadCard

/-- THE TIED CARD OF 'guichetlaw11.WireSums'. -/
def wireSumsCard : Claim7 := { stood := { row := wireSumsRow, standIns := [], harness := (true, "d3faf6bc52e9ebf32e70b394fde32786181e63ea04a1c61816ae7a9a4633a385"), looks := false }, kinds := [], alts := [], laidByText := true, laidKinds := [.data, .pinned], laidTests := true, laidLooks := .later }
def WireSumsCardSaid : Prop := Claim7.holds Tryd.pinned (.plain (OpenSpec.ofChange wireSumsSpec)) wireSumsCard

/-- THE SECOND FORM's CARD OF 'guichetlaw11.WireParts'. -/
def wirePartsUptoCard : Claim7 := { stood := { row := wirePartsUptoRow, standIns := [], harness := (true, "d3faf6bc52e9ebf32e70b394fde32786181e63ea04a1c61816ae7a9a4633a385"), looks := false }, kinds := [], alts := [], laidByText := true, laidKinds := [.data, .pinned], laidTests := true, laidLooks := .later }
def WirePartsUptoCardSaid : Prop := Claim7.holds Tryd.pinned (.plain (OpenSpec.upto wirePartsSpec)) wirePartsUptoCard

/-- THE SECOND FORM's CARD OF 'guichetlaw11.WireFrames'. -/
def wireFramesUptoCard : Claim7 := { stood := { row := wireFramesUptoRow, standIns := [], harness := (true, "d3faf6bc52e9ebf32e70b394fde32786181e63ea04a1c61816ae7a9a4633a385"), looks := false }, kinds := [], alts := [], laidByText := true, laidKinds := [.data, .pinned], laidTests := true, laidLooks := .later }
def WireFramesUptoCardSaid : Prop := Claim7.holds Tryd.pinned (.plain (OpenSpec.upto wireFramesSpec)) wireFramesUptoCard

/-- THE SECOND FORM's CARD OF 'guichetlaw11.WireReads'. -/
def wireReadsUptoCard : Claim7 := { stood := { row := wireReadsUptoRow, standIns := [], harness := (true, "d3faf6bc52e9ebf32e70b394fde32786181e63ea04a1c61816ae7a9a4633a385"), looks := false }, kinds := [], alts := [], laidByText := true, laidKinds := [.data, .pinned], laidTests := true, laidLooks := .later }
def WireReadsUptoCardSaid : Prop := Claim7.holds Tryd.pinned (.plain (OpenSpec.upto wireReadsSpec)) wireReadsUptoCard

/-- THE SECOND FORM's CARD OF 'guichetlaw11.WireLong'. -/
def wireLongUptoCard : Claim7 := { stood := { row := wireLongUptoRow, standIns := [], harness := (true, "d3faf6bc52e9ebf32e70b394fde32786181e63ea04a1c61816ae7a9a4633a385"), looks := false }, kinds := [], alts := [], laidByText := true, laidKinds := [.data, .pinned], laidTests := true, laidLooks := .later }
def WireLongUptoCardSaid : Prop := Claim7.holds Tryd.pinned (.plain (OpenSpec.upto wireLongSpec)) wireLongUptoCard

/-- THE SECOND FORM's CARD OF 'guichetlaw11.WireBad'. -/
def wireBadUptoCard : Claim7 := { stood := { row := wireBadUptoRow, standIns := [], harness := (true, "d3faf6bc52e9ebf32e70b394fde32786181e63ea04a1c61816ae7a9a4633a385"), looks := false }, kinds := [], alts := [], laidByText := true, laidKinds := [.data, .pinned], laidTests := true, laidLooks := .later }
def WireBadUptoCardSaid : Prop := Claim7.holds Tryd.pinned (.plain (OpenSpec.upto wireBadSpec)) wireBadUptoCard

/-- THE SECOND FORM's CARD OF 'guichetlaw11.WireSums'. -/
def wireSumsUptoCard : Claim7 := { stood := { row := wireSumsUptoRow, standIns := [], harness := (true, "d3faf6bc52e9ebf32e70b394fde32786181e63ea04a1c61816ae7a9a4633a385"), looks := false }, kinds := [], alts := [], laidByText := true, laidKinds := [.data, .pinned], laidTests := true, laidLooks := .later }
def WireSumsUptoCardSaid : Prop := Claim7.holds Tryd.pinned (.plain (OpenSpec.upto wireSumsSpec)) wireSumsUptoCard
end Rows
end Go.Proofs.YtbpkkgifjcpekaaDoor
