/-
  DERIVED. GIVEN WITH THE SEED: THE CARDS: each row of YtamccnffnljadaaDoorRows.lean that lists a variable, with what it lists TIED to the program's text (the seventh form; the later family's looks); each row that meets fmt, with fmt's text TOLD by the authors' own Lean function (tested against real Go, not proved from fmt's source: count such statements apart). THE CARD IS WHAT COUNTS. Prove the row's statement (the work); the ties are given (YtamccnffnljadaaDoorTie.lean); close each card by the builder's one call (the guide's Derived/Test/ToyasCard.lean, 'card_holds'). Laid BY PROGRAM, IN A SANDBOX (cutbox-door.mjs). By AI agents, Wed Nov 11 2026. No macro, syntax, notation, axiom, sorry.
-/
import Derived.Test.YtamccnffnljadaaDoorRows
import GoSem.ClaimSeven
namespace Go.Proofs.YtamccnffnljadaaDoor
namespace Rows

/-- THE TIED CARD OF 'flipbooklaw07.GlyphRights'. -/
def glyphRightsCard : Claim7 := { stood := { row := glyphRightsRow, standIns := [], harness := (true, "eae5ea23a45f54fa8e7294631d29770d863a9728989e46a8bfe2d68bc1633609"), looks := false }, kinds := [], alts := [], laidByText := true, laidKinds := [.data, .data], laidTests := true, laidLooks := .later }
def GlyphRightsCardSaid : Prop := Claim7.holds Tryd.pinned (.plain (OpenSpec.ofChange glyphRightsSpec)) glyphRightsCard

/-- THE TIED CARD OF 'flipbooklaw07.GlyphWides'. -/
def glyphWidesCard : Claim7 := { stood := { row := glyphWidesRow, standIns := [], harness := (true, "eae5ea23a45f54fa8e7294631d29770d863a9728989e46a8bfe2d68bc1633609"), looks := false }, kinds := [], alts := [], laidByText := true, laidKinds := [.data, .data], laidTests := true, laidLooks := .later }
def GlyphWidesCardSaid : Prop := Claim7.holds Tryd.pinned (.plain (OpenSpec.ofChange glyphWidesSpec)) glyphWidesCard

/-- THE TIED CARD OF 'flipbooklaw07.GlyphUnlike'. -/
def glyphUnlikeCard : Claim7 := { stood := { row := glyphUnlikeRow, standIns := [], harness := (true, "eae5ea23a45f54fa8e7294631d29770d863a9728989e46a8bfe2d68bc1633609"), looks := false }, kinds := [], alts := [], laidByText := true, laidKinds := [.data, .data], laidTests := true, laidLooks := .later }
def GlyphUnlikeCardSaid : Prop := Claim7.holds Tryd.pinned (.plain (OpenSpec.ofChange glyphUnlikeSpec)) glyphUnlikeCard

/-- THE TIED CARD OF 'flipbooklaw07.GlyphDraws'. -/
def glyphDrawsCard : Claim7 := { stood := { row := glyphDrawsRow, standIns := [], harness := (true, "eae5ea23a45f54fa8e7294631d29770d863a9728989e46a8bfe2d68bc1633609"), looks := false }, kinds := [], alts := [], laidByText := true, laidKinds := [.data, .data], laidTests := true, laidLooks := .later }
def GlyphDrawsCardSaid : Prop := Claim7.holds Tryd.pinned (.plain (OpenSpec.ofChange glyphDrawsSpec)) glyphDrawsCard

/-- THE TIED CARD OF 'flipbooklaw07.GlyphColumns'. -/
def glyphColumnsCard : Claim7 := { stood := { row := glyphColumnsRow, standIns := [], harness := (true, "eae5ea23a45f54fa8e7294631d29770d863a9728989e46a8bfe2d68bc1633609"), looks := false }, kinds := [], alts := [], laidByText := true, laidKinds := [.data, .data], laidTests := true, laidLooks := .later }
def GlyphColumnsCardSaid : Prop := Claim7.holds Tryd.pinned (.plain (OpenSpec.ofChange glyphColumnsSpec)) glyphColumnsCard

/-- THE SECOND FORM's CARD OF 'flipbooklaw07.GlyphRights'. -/
def glyphRightsUptoCard : Claim7 := { stood := { row := glyphRightsUptoRow, standIns := [], harness := (true, "eae5ea23a45f54fa8e7294631d29770d863a9728989e46a8bfe2d68bc1633609"), looks := false }, kinds := [], alts := [], laidByText := true, laidKinds := [.data, .data], laidTests := true, laidLooks := .later }
def GlyphRightsUptoCardSaid : Prop := Claim7.holds Tryd.pinned (.plain (OpenSpec.upto glyphRightsSpec)) glyphRightsUptoCard

/-- THE SECOND FORM's CARD OF 'flipbooklaw07.GlyphWides'. -/
def glyphWidesUptoCard : Claim7 := { stood := { row := glyphWidesUptoRow, standIns := [], harness := (true, "eae5ea23a45f54fa8e7294631d29770d863a9728989e46a8bfe2d68bc1633609"), looks := false }, kinds := [], alts := [], laidByText := true, laidKinds := [.data, .data], laidTests := true, laidLooks := .later }
def GlyphWidesUptoCardSaid : Prop := Claim7.holds Tryd.pinned (.plain (OpenSpec.upto glyphWidesSpec)) glyphWidesUptoCard

/-- THE SECOND FORM's CARD OF 'flipbooklaw07.GlyphUnlike'. -/
def glyphUnlikeUptoCard : Claim7 := { stood := { row := glyphUnlikeUptoRow, standIns := [], harness := (true, "eae5ea23a45f54fa8e7294631d29770d863a9728989e46a8bfe2d68bc1633609"), looks := false }, kinds := [], alts := [], laidByText := true, laidKinds := [.data, .data], laidTests := true, laidLooks := .later }
def GlyphUnlikeUptoCardSaid : Prop := Claim7.holds Tryd.pinned (.plain (OpenSpec.upto glyphUnlikeSpec)) glyphUnlikeUptoCard

/-- THE SECOND FORM's CARD OF 'flipbooklaw07.GlyphDraws'. -/
def glyphDrawsUptoCard : Claim7 := { stood := { row := glyphDrawsUptoRow, standIns := [], harness := (true, "eae5ea23a45f54fa8e7294631d29770d863a9728989e46a8bfe2d68bc1633609"), looks := false }, kinds := [], alts := [], laidByText := true, laidKinds := [.data, .data], laidTests := true, laidLooks := .later }
def GlyphDrawsUptoCardSaid : Prop := Claim7.holds Tryd.pinned (.plain (OpenSpec.upto glyphDrawsSpec)) glyphDrawsUptoCard

/-- THE SECOND FORM's CARD OF 'flipbooklaw07.GlyphColumns'. -/
def glyphColumnsUptoCard : Claim7 := { stood := { row := glyphColumnsUptoRow, standIns := [], harness := (true, "eae5ea23a45f54fa8e7294631d29770d863a9728989e46a8bfe2d68bc1633609"), looks := false }, kinds := [], alts := [], laidByText := true, laidKinds := [.data, .data], laidTests := true, laidLooks := .later }
def GlyphColumnsUptoCardSaid : Prop := Claim7.holds Tryd.pinned (.plain (OpenSpec.upto glyphColumnsSpec)) glyphColumnsUptoCard
end Rows
end Go.Proofs.YtamccnffnljadaaDoor
