/-
  DERIVED. GIVEN WITH THE SEED: THE CARDS: each row of YtnnoanfiehjleaaDoorRows.lean that lists a variable, with what it lists TIED to the program's text (the seventh form; the later family's looks); each row that meets fmt, with fmt's text TOLD by the authors' own Lean function (tested against real Go, not proved from fmt's source: count such statements apart). THE CARD IS WHAT COUNTS. Prove the row's statement (the work); the ties are given (YtnnoanfiehjleaaDoorTie.lean); close each card by the builder's one call (the guide's Derived/Test/ToyasCard.lean, 'card_holds'). Laid BY PROGRAM, IN A SANDBOX (cutbox-door.mjs). By AI agents, Wed Nov 11 2026. No macro, syntax, notation, axiom, sorry.
-/
import Derived.Test.YtnnoanfiehjleaaDoorRows
import GoSem.ClaimSeven
namespace Go.Proofs.YtnnoanfiehjleaaDoor
namespace Rows

/-- THE TIED CARD OF 'guichetlaw15.WalkTells'. -/
def walkTellsCard : Claim7 := { stood := { row := walkTellsRow, standIns := [], harness := (true, "6a156b3505a37413638468a7ef6f33faf3ef678060e7292c7cbb934f05799715"), looks := true }, kinds := [], alts := [], laidByText := true, laidKinds := [.data, .data, .data, .sentinel, .sentinel], laidTests := true, laidLooks := .later }
def WalkTellsCardSaid : Prop := Claim7.holds Tryd.pinned (.plain (OpenSpec.ofChange walkTellsSpec)) walkTellsCard

/-- THE TIED CARD OF 'guichetlaw15.WalkEnds'. -/
def walkEndsCard : Claim7 := { stood := { row := walkEndsRow, standIns := [], harness := (true, "6a156b3505a37413638468a7ef6f33faf3ef678060e7292c7cbb934f05799715"), looks := true }, kinds := [], alts := [], laidByText := true, laidKinds := [.data, .data, .data, .sentinel, .sentinel], laidTests := true, laidLooks := .later }
def WalkEndsCardSaid : Prop := Claim7.holds Tryd.pinned (.plain (OpenSpec.ofChange walkEndsSpec)) walkEndsCard

/-- THE TIED CARD OF 'guichetlaw15.WalkAsks'. -/
def walkAsksCard : Claim7 := { stood := { row := walkAsksRow, standIns := [], harness := (true, "6a156b3505a37413638468a7ef6f33faf3ef678060e7292c7cbb934f05799715"), looks := true }, kinds := [], alts := [], laidByText := true, laidKinds := [.data, .data, .data, .sentinel, .sentinel], laidTests := true, laidLooks := .later }
def WalkAsksCardSaid : Prop := Claim7.holds Tryd.pinned (.plain (OpenSpec.ofChange walkAsksSpec)) walkAsksCard

/-- THE TIED CARD OF 'guichetlaw15.WalkPins'. -/
def walkPinsCard : Claim7 := { stood := { row := walkPinsRow, standIns := [], harness := (true, "6a156b3505a37413638468a7ef6f33faf3ef678060e7292c7cbb934f05799715"), looks := true }, kinds := [], alts := [], laidByText := true, laidKinds := [.data, .data, .data, .sentinel, .sentinel], laidTests := true, laidLooks := .later }
def WalkPinsCardSaid : Prop := Claim7.holds Tryd.pinned (.plain (OpenSpec.ofChange walkPinsSpec)) walkPinsCard

/-- THE SECOND FORM's CARD OF 'guichetlaw15.WalkTells'. -/
def walkTellsUptoCard : Claim7 := { stood := { row := walkTellsUptoRow, standIns := [], harness := (true, "6a156b3505a37413638468a7ef6f33faf3ef678060e7292c7cbb934f05799715"), looks := true }, kinds := [], alts := [], laidByText := true, laidKinds := [.data, .data, .data, .sentinel, .sentinel], laidTests := true, laidLooks := .later }
def WalkTellsUptoCardSaid : Prop := Claim7.holds Tryd.pinned (.plain (OpenSpec.upto walkTellsSpec)) walkTellsUptoCard

/-- THE SECOND FORM's CARD OF 'guichetlaw15.WalkEnds'. -/
def walkEndsUptoCard : Claim7 := { stood := { row := walkEndsUptoRow, standIns := [], harness := (true, "6a156b3505a37413638468a7ef6f33faf3ef678060e7292c7cbb934f05799715"), looks := true }, kinds := [], alts := [], laidByText := true, laidKinds := [.data, .data, .data, .sentinel, .sentinel], laidTests := true, laidLooks := .later }
def WalkEndsUptoCardSaid : Prop := Claim7.holds Tryd.pinned (.plain (OpenSpec.upto walkEndsSpec)) walkEndsUptoCard

/-- THE SECOND FORM's CARD OF 'guichetlaw15.WalkAsks'. -/
def walkAsksUptoCard : Claim7 := { stood := { row := walkAsksUptoRow, standIns := [], harness := (true, "6a156b3505a37413638468a7ef6f33faf3ef678060e7292c7cbb934f05799715"), looks := true }, kinds := [], alts := [], laidByText := true, laidKinds := [.data, .data, .data, .sentinel, .sentinel], laidTests := true, laidLooks := .later }
def WalkAsksUptoCardSaid : Prop := Claim7.holds Tryd.pinned (.plain (OpenSpec.upto walkAsksSpec)) walkAsksUptoCard

/-- THE SECOND FORM's CARD OF 'guichetlaw15.WalkPins'. -/
def walkPinsUptoCard : Claim7 := { stood := { row := walkPinsUptoRow, standIns := [], harness := (true, "6a156b3505a37413638468a7ef6f33faf3ef678060e7292c7cbb934f05799715"), looks := true }, kinds := [], alts := [], laidByText := true, laidKinds := [.data, .data, .data, .sentinel, .sentinel], laidTests := true, laidLooks := .later }
def WalkPinsUptoCardSaid : Prop := Claim7.holds Tryd.pinned (.plain (OpenSpec.upto walkPinsSpec)) walkPinsUptoCard
end Rows
end Go.Proofs.YtnnoanfiehjleaaDoor
