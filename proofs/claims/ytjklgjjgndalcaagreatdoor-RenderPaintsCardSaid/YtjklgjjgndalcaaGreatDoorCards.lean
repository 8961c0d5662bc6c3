/-
  DERIVED. GIVEN WITH THE SEED: THE CARDS: each row of YtjklgjjgndalcaaGreatDoorRows.lean that lists a variable, with what it lists TIED to the program's text (the seventh form; the later family's looks); each row that meets fmt, with fmt's text TOLD by the authors' own Lean function (tested against real Go, not proved from fmt's source: count such statements apart). THE CARD IS WHAT COUNTS. Prove the row's statement (the work); the ties are given (YtjklgjjgndalcaaGreatDoorTie.lean); close each card by the builder's one call (the guide's Derived/Test/ToyasCard.lean, 'card_holds'). Laid BY PROGRAM, IN A SANDBOX (cutbox-door.mjs). By AI agents, Wed Nov 11 2026. No macro, syntax, notation, axiom, sorry.
-/
import Derived.Test.YtjklgjjgndalcaaGreatDoorRows
import GoSem.ClaimSeven
namespace Go.Proofs.YtjklgjjgndalcaaGreatDoor
namespace Rows

/-- THE TIED CARD OF 'flipbooklaw22.RenderShows'. -/
def renderShowsCard : Claim7 := { stood := { row := renderShowsRow, standIns := [], harness := (true, "24f75e363cad769e7225d779210245527774e941e087e21ec821c056ad743b22"), looks := false }, kinds := [], alts := [], laidByText := true, laidKinds := [.data, .data, .data, .data, .data, .data, .pinned], laidTests := true, laidLooks := .later }
def RenderShowsCardSaid : Prop := Claim7.holds Tryz.pinned (.plain (OpenSpec.ofChange renderShowsSpec)) renderShowsCard

/-- THE TIED CARD OF 'flipbooklaw22.RenderNone'. -/
def renderNoneCard : Claim7 := { stood := { row := renderNoneRow, standIns := [], harness := (true, "24f75e363cad769e7225d779210245527774e941e087e21ec821c056ad743b22"), looks := false }, kinds := [], alts := [], laidByText := true, laidKinds := [.data, .data, .data, .data, .data, .data, .pinned], laidTests := true, laidLooks := .later }
def RenderNoneCardSaid : Prop := Claim7.holds Tryz.pinned (.plain (OpenSpec.ofChange renderNoneSpec)) renderNoneCard

/-- THE TIED CARD OF 'flipbooklaw22.RenderLines'. -/
def renderLinesCard : Claim7 := { stood := { row := renderLinesRow, standIns := [], harness := (true, "24f75e363cad769e7225d779210245527774e941e087e21ec821c056ad743b22"), looks := false }, kinds := [], alts := [], laidByText := true, laidKinds := [.data, .data, .data, .data, .data, .data, .pinned], laidTests := true, laidLooks := .later }
def RenderLinesCardSaid : Prop := Claim7.holds Tryz.pinned (.plain (OpenSpec.ofChange renderLinesSpec)) renderLinesCard

/-- THE TIED CARD OF 'flipbooklaw22.RenderFirsts'. -/
def renderFirstsCard : Claim7 := { stood := { row := renderFirstsRow, standIns := [], harness := (true, "24f75e363cad769e7225d779210245527774e941e087e21ec821c056ad743b22"), looks := false }, kinds := [], alts := [], laidByText := true, laidKinds := [.data, .data, .data, .data, .data, .data, .pinned], laidTests := true, laidLooks := .later }
def RenderFirstsCardSaid : Prop := Claim7.holds Tryz.pinned (.plain (OpenSpec.ofChange renderFirstsSpec)) renderFirstsCard

/-- THE TIED CARD OF 'flipbooklaw22.RenderPaints'. -/
def renderPaintsCard : Claim7 := { stood := { row := renderPaintsRow, standIns := [], harness := (true, "24f75e363cad769e7225d779210245527774e941e087e21ec821c056ad743b22"), looks := false }, kinds := [], alts := [], laidByText := true, laidKinds := [.data, .data, .data, .data, .data, .data, .pinned], laidTests := true, laidLooks := .later }
def RenderPaintsCardSaid : Prop := Claim7.holds Tryz.pinned (.plain (OpenSpec.ofChange renderPaintsSpec)) renderPaintsCard

/-- THE SECOND FORM's CARD OF 'flipbooklaw22.RenderShows'. -/
def renderShowsUptoCard : Claim7 := { stood := { row := renderShowsUptoRow, standIns := [], harness := (true, "24f75e363cad769e7225d779210245527774e941e087e21ec821c056ad743b22"), looks := false }, kinds := [], alts := [], laidByText := true, laidKinds := [.data, .data, .data, .data, .data, .data, .pinned], laidTests := true, laidLooks := .later }
def RenderShowsUptoCardSaid : Prop := Claim7.holds Tryz.pinned (.plain (OpenSpec.upto renderShowsSpec)) renderShowsUptoCard

/-- THE SECOND FORM's CARD OF 'flipbooklaw22.RenderNone'. -/
def renderNoneUptoCard : Claim7 := { stood := { row := renderNoneUptoRow, standIns := [], harness := (true, "24f75e363cad769e7225d779210245527774e941e087e21ec821c056ad743b22"), looks := false }, kinds := [], alts := [], laidByText := true, laidKinds := [.data, .data, .data, .data, .data, .data, .pinned], laidTests := true, laidLooks := .later }
def RenderNoneUptoCardSaid : Prop := Claim7.holds Tryz.pinned (.plain (OpenSpec.upto renderNoneSpec)) renderNoneUptoCard

/-- THE SECOND FORM's CARD OF 'flipbooklaw22.RenderLines'. -/
def renderLinesUptoCard : Claim7 := { stood := { row := renderLinesUptoRow, standIns := [], harness := (true, "24f75e363cad769e7225d779210245527774e941e087e21ec821c056ad743b22"), looks := false }, kinds := [], alts := [], laidByText := true, laidKinds := [.data, .data, .data, .data, .data, .data, .pinned], laidTests := true, laidLooks := .later }
def RenderLinesUptoCardSaid : Prop := Claim7.holds Tryz.pinned (.plain (OpenSpec.upto renderLinesSpec)) renderLinesUptoCard

/-- THE SECOND FORM's CARD OF 'flipbooklaw22.RenderFirsts'. -/
def renderFirstsUptoCard : Claim7 := { stood := { row := renderFirstsUptoRow, standIns := [], harness := (true, "24f75e363cad769e7225d779210245527774e941e087e21ec821c056ad743b22"), looks := false }, kinds := [], alts := [], laidByText := true, laidKinds := [.data, .data, .data, .data, .data, .data, .pinned], laidTests := true, laidLooks := .later }
def RenderFirstsUptoCardSaid : Prop := Claim7.holds Tryz.pinned (.plain (OpenSpec.upto renderFirstsSpec)) renderFirstsUptoCard

/-- THE SECOND FORM's CARD OF 'flipbooklaw22.RenderPaints'. -/
def renderPaintsUptoCard : Claim7 := { stood := { row := renderPaintsUptoRow, standIns := [], harness := (true, "24f75e363cad769e7225d779210245527774e941e087e21ec821c056ad743b22"), looks := false }, kinds := [], alts := [], laidByText := true, laidKinds := [.data, .data, .data, .data, .data, .data, .pinned], laidTests := true, laidLooks := .later }
def RenderPaintsUptoCardSaid : Prop := Claim7.holds Tryz.pinned (.plain (OpenSpec.upto renderPaintsSpec)) renderPaintsUptoCard
end Rows
end Go.Proofs.YtjklgjjgndalcaaGreatDoor
