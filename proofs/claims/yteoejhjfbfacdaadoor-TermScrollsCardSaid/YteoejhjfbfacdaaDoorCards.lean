/-
  DERIVED. GIVEN WITH THE SEED: THE CARDS: each row of YteoejhjfbfacdaaDoorRows.lean that lists a variable, with what it lists TIED to the program's text (the seventh form; the later family's looks); each row that meets fmt, with fmt's text TOLD by the authors' own Lean function (tested against real Go, not proved from fmt's source: count such statements apart). THE CARD IS WHAT COUNTS. Prove the row's statement (the work); the ties are given (YteoejhjfbfacdaaDoorTie.lean); close each card by the builder's one call (the guide's Derived/Test/ToyasCard.lean, 'card_holds'). Laid BY PROGRAM, IN A SANDBOX (cutbox-door.mjs). By AI agents, Wed Nov 11 2026. No macro, syntax, notation, axiom, sorry.
-/
import Derived.Test.YteoejhjfbfacdaaDoorRows
import GoSem.ClaimSeven
namespace Go.Proofs.YteoejhjfbfacdaaDoor
namespace Rows

/-- THE TIED CARD OF 'flipbooklaw10.TermPlain'. -/
def termPlainCard : Claim7 := { stood := { row := termPlainRow, standIns := [], harness := (true, "e758c01eda103f4d73ba4ef7300edfe8f079c3827dadab01a5f59172b1df43c6"), looks := false }, kinds := [], alts := [], laidByText := true, laidKinds := [.data, .data, .data, .data, .data, .data, .pinned], laidTests := true, laidLooks := .later }
def TermPlainCardSaid : Prop := Claim7.holds Tryd.pinned (.plain (OpenSpec.ofChange termPlainSpec)) termPlainCard

/-- THE TIED CARD OF 'flipbooklaw10.TermDraws'. -/
def termDrawsCard : Claim7 := { stood := { row := termDrawsRow, standIns := [], harness := (true, "e758c01eda103f4d73ba4ef7300edfe8f079c3827dadab01a5f59172b1df43c6"), looks := false }, kinds := [], alts := [], laidByText := true, laidKinds := [.data, .data, .data, .data, .data, .data, .pinned], laidTests := true, laidLooks := .later }
def TermDrawsCardSaid : Prop := Claim7.holds Tryd.pinned (.plain (OpenSpec.ofChange termDrawsSpec)) termDrawsCard

/-- THE TIED CARD OF 'flipbooklaw10.TermScrolls'. -/
def termScrollsCard : Claim7 := { stood := { row := termScrollsRow, standIns := [], harness := (true, "e758c01eda103f4d73ba4ef7300edfe8f079c3827dadab01a5f59172b1df43c6"), looks := false }, kinds := [], alts := [], laidByText := true, laidKinds := [.data, .data, .data, .data, .data, .data, .pinned], laidTests := true, laidLooks := .later }
def TermScrollsCardSaid : Prop := Claim7.holds Tryd.pinned (.plain (OpenSpec.ofChange termScrollsSpec)) termScrollsCard

/-- THE TIED CARD OF 'flipbooklaw10.TermParts'. -/
def termPartsCard : Claim7 := { stood := { row := termPartsRow, standIns := [], harness := (true, "e758c01eda103f4d73ba4ef7300edfe8f079c3827dadab01a5f59172b1df43c6"), looks := false }, kinds := [], alts := [], laidByText := true, laidKinds := [.data, .data, .data, .data, .data, .data, .pinned], laidTests := true, laidLooks := .later }
def TermPartsCardSaid : Prop := Claim7.holds Tryd.pinned (.plain (OpenSpec.ofChange termPartsSpec)) termPartsCard

/-- THE TIED CARD OF 'flipbooklaw10.TermAlt'. -/
def termAltCard : Claim7 := { stood := { row := termAltRow, standIns := [], harness := (true, "e758c01eda103f4d73ba4ef7300edfe8f079c3827dadab01a5f59172b1df43c6"), looks := false }, kinds := [], alts := [], laidByText := true, laidKinds := [.data, .data, .data, .data, .data, .data, .pinned], laidTests := true, laidLooks := .later }
def TermAltCardSaid : Prop := Claim7.holds Tryd.pinned (.plain (OpenSpec.ofChange termAltSpec)) termAltCard

/-- THE TIED CARD OF 'flipbooklaw10.TermPlaces'. -/
def termPlacesCard : Claim7 := { stood := { row := termPlacesRow, standIns := [], harness := (true, "e758c01eda103f4d73ba4ef7300edfe8f079c3827dadab01a5f59172b1df43c6"), looks := false }, kinds := [], alts := [], laidByText := true, laidKinds := [.data, .data, .data, .data, .data, .data, .pinned], laidTests := true, laidLooks := .later }
def TermPlacesCardSaid : Prop := Claim7.holds Tryd.pinned (.plain (OpenSpec.ofChange termPlacesSpec)) termPlacesCard

/-- THE TIED CARD OF 'flipbooklaw10.TermAnew'. -/
def termAnewCard : Claim7 := { stood := { row := termAnewRow, standIns := [], harness := (true, "e758c01eda103f4d73ba4ef7300edfe8f079c3827dadab01a5f59172b1df43c6"), looks := false }, kinds := [], alts := [], laidByText := true, laidKinds := [.data, .data, .data, .data, .data, .data, .pinned], laidTests := true, laidLooks := .later }
def TermAnewCardSaid : Prop := Claim7.holds Tryd.pinned (.plain (OpenSpec.ofChange termAnewSpec)) termAnewCard

/-- THE SECOND FORM's CARD OF 'flipbooklaw10.TermPlain'. -/
def termPlainUptoCard : Claim7 := { stood := { row := termPlainUptoRow, standIns := [], harness := (true, "e758c01eda103f4d73ba4ef7300edfe8f079c3827dadab01a5f59172b1df43c6"), looks := false }, kinds := [], alts := [], laidByText := true, laidKinds := [.data, .data, .data, .data, .data, .data, .pinned], laidTests := true, laidLooks := .later }
def TermPlainUptoCardSaid : Prop := Claim7.holds Tryd.pinned (.plain (OpenSpec.upto termPlainSpec)) termPlainUptoCard

/-- THE SECOND FORM's CARD OF 'flipbooklaw10.TermDraws'. -/
def termDrawsUptoCard : Claim7 := { stood := { row := termDrawsUptoRow, standIns := [], harness := (true, "e758c01eda103f4d73ba4ef7300edfe8f079c3827dadab01a5f59172b1df43c6"), looks := false }, kinds := [], alts := [], laidByText := true, laidKinds := [.data, .data, .data, .data, .data, .data, .pinned], laidTests := true, laidLooks := .later }
def TermDrawsUptoCardSaid : Prop := Claim7.holds Tryd.pinned (.plain (OpenSpec.upto termDrawsSpec)) termDrawsUptoCard

/-- THE SECOND FORM's CARD OF 'flipbooklaw10.TermScrolls'. -/
def termScrollsUptoCard : Claim7 := { stood := { row := termScrollsUptoRow, standIns := [], harness := (true, "e758c01eda103f4d73ba4ef7300edfe8f079c3827dadab01a5f59172b1df43c6"), looks := false }, kinds := [], alts := [], laidByText := true, laidKinds := [.data, .data, .data, .data, .data, .data, .pinned], laidTests := true, laidLooks := .later }
def TermScrollsUptoCardSaid : Prop := Claim7.holds Tryd.pinned (.plain (OpenSpec.upto termScrollsSpec)) termScrollsUptoCard

/-- THE SECOND FORM's CARD OF 'flipbooklaw10.TermParts'. -/
def termPartsUptoCard : Claim7 := { stood := { row := termPartsUptoRow, standIns := [], harness := (true, "e758c01eda103f4d73ba4ef7300edfe8f079c3827dadab01a5f59172b1df43c6"), looks := false }, kinds := [], alts := [], laidByText := true, laidKinds := [.data, .data, .data, .data, .data, .data, .pinned], laidTests := true, laidLooks := .later }
def TermPartsUptoCardSaid : Prop := Claim7.holds Tryd.pinned (.plain (OpenSpec.upto termPartsSpec)) termPartsUptoCard

/-- THE SECOND FORM's CARD OF 'flipbooklaw10.TermAlt'. -/
def termAltUptoCard : Claim7 := { stood := { row := termAltUptoRow, standIns := [], harness := (true, "e758c01eda103f4d73ba4ef7300edfe8f079c3827dadab01a5f59172b1df43c6"), looks := false }, kinds := [], alts := [], laidByText := true, laidKinds := [.data, .data, .data, .data, .data, .data, .pinned], laidTests := true, laidLooks := .later }
def TermAltUptoCardSaid : Prop := Claim7.holds Tryd.pinned (.plain (OpenSpec.upto termAltSpec)) termAltUptoCard

/-- THE SECOND FORM's CARD OF 'flipbooklaw10.TermPlaces'. -/
def termPlacesUptoCard : Claim7 := { stood := { row := termPlacesUptoRow, standIns := [], harness := (true, "e758c01eda103f4d73ba4ef7300edfe8f079c3827dadab01a5f59172b1df43c6"), looks := false }, kinds := [], alts := [], laidByText := true, laidKinds := [.data, .data, .data, .data, .data, .data, .pinned], laidTests := true, laidLooks := .later }
def TermPlacesUptoCardSaid : Prop := Claim7.holds Tryd.pinned (.plain (OpenSpec.upto termPlacesSpec)) termPlacesUptoCard

/-- THE SECOND FORM's CARD OF 'flipbooklaw10.TermAnew'. -/
def termAnewUptoCard : Claim7 := { stood := { row := termAnewUptoRow, standIns := [], harness := (true, "e758c01eda103f4d73ba4ef7300edfe8f079c3827dadab01a5f59172b1df43c6"), looks := false }, kinds := [], alts := [], laidByText := true, laidKinds := [.data, .data, .data, .data, .data, .data, .pinned], laidTests := true, laidLooks := .later }
def TermAnewUptoCardSaid : Prop := Claim7.holds Tryd.pinned (.plain (OpenSpec.upto termAnewSpec)) termAnewUptoCard
end Rows
end Go.Proofs.YteoejhjfbfacdaaDoor
