/-
  DERIVED. GIVEN WITH THE SEED: THE CARDS: each row of YtclnfbmmaofpjaaGreatDoorRows.lean that lists a variable, with what it lists TIED to the program's text (the seventh form; the later family's looks); each row that meets fmt, with fmt's text TOLD by the authors' own Lean function (tested against real Go, not proved from fmt's source: count such statements apart). THE CARD IS WHAT COUNTS. Prove the row's statement (the work); the ties are given (YtclnfbmmaofpjaaGreatDoorTie.lean); close each card by the builder's one call (the guide's Derived/Test/ToyasCard.lean, 'card_holds'). Laid BY PROGRAM, IN A SANDBOX (cutbox-door.mjs). By AI agents, Wed Nov 11 2026. No macro, syntax, notation, axiom, sorry.
-/
import Derived.Test.YtclnfbmmaofpjaaGreatDoorRows
import GoSem.ClaimSeven
namespace Go.Proofs.YtclnfbmmaofpjaaGreatDoor
namespace Rows

/-- THE TIED CARD OF 'flipbooklaw11.StateBytes'. -/
def stateBytesCard : Claim7 := { stood := { row := stateBytesRow, standIns := [], harness := (true, "0ab91335e69f89b0f00c1c3bdd9b2274d57198cf513a269aeeb74fd764b5669f"), looks := false }, kinds := [], alts := [], laidByText := true, laidKinds := [.data, .data, .data, .data, .data, .data, .pinned], laidTests := true, laidLooks := .later }
def StateBytesCardSaid : Prop := Claim7.holds Tryz.pinned (.plain (OpenSpec.ofChange stateBytesSpec)) stateBytesCard

/-- THE TIED CARD OF 'flipbooklaw11.StateCuts'. -/
def stateCutsCard : Claim7 := { stood := { row := stateCutsRow, standIns := [], harness := (true, "0ab91335e69f89b0f00c1c3bdd9b2274d57198cf513a269aeeb74fd764b5669f"), looks := false }, kinds := [], alts := [], laidByText := true, laidKinds := [.data, .data, .data, .data, .data, .data, .pinned], laidTests := true, laidLooks := .later }
def StateCutsCardSaid : Prop := Claim7.holds Tryz.pinned (.plain (OpenSpec.ofChange stateCutsSpec)) stateCutsCard

/-- THE TIED CARD OF 'flipbooklaw11.StateBack'. -/
def stateBackCard : Claim7 := { stood := { row := stateBackRow, standIns := [], harness := (true, "0ab91335e69f89b0f00c1c3bdd9b2274d57198cf513a269aeeb74fd764b5669f"), looks := false }, kinds := [], alts := [], laidByText := true, laidKinds := [.data, .data, .data, .data, .data, .data, .pinned], laidTests := true, laidLooks := .later }
def StateBackCardSaid : Prop := Claim7.holds Tryz.pinned (.plain (OpenSpec.ofChange stateBackSpec)) stateBackCard

/-- THE TIED CARD OF 'flipbooklaw11.StateGoes'. -/
def stateGoesCard : Claim7 := { stood := { row := stateGoesRow, standIns := [], harness := (true, "0ab91335e69f89b0f00c1c3bdd9b2274d57198cf513a269aeeb74fd764b5669f"), looks := false }, kinds := [], alts := [], laidByText := true, laidKinds := [.data, .data, .data, .data, .data, .data, .pinned], laidTests := true, laidLooks := .later }
def StateGoesCardSaid : Prop := Claim7.holds Tryz.pinned (.plain (OpenSpec.ofChange stateGoesSpec)) stateGoesCard

/-- THE TIED CARD OF 'flipbooklaw11.StateUnlike'. -/
def stateUnlikeCard : Claim7 := { stood := { row := stateUnlikeRow, standIns := [], harness := (true, "0ab91335e69f89b0f00c1c3bdd9b2274d57198cf513a269aeeb74fd764b5669f"), looks := false }, kinds := [], alts := [], laidByText := true, laidKinds := [.data, .data, .data, .data, .data, .data, .pinned], laidTests := true, laidLooks := .later }
def StateUnlikeCardSaid : Prop := Claim7.holds Tryz.pinned (.plain (OpenSpec.ofChange stateUnlikeSpec)) stateUnlikeCard

/-- THE TIED CARD OF 'flipbooklaw11.StateCopies'. -/
def stateCopiesCard : Claim7 := { stood := { row := stateCopiesRow, standIns := [], harness := (true, "0ab91335e69f89b0f00c1c3bdd9b2274d57198cf513a269aeeb74fd764b5669f"), looks := false }, kinds := [], alts := [], laidByText := true, laidKinds := [.data, .data, .data, .data, .data, .data, .pinned], laidTests := true, laidLooks := .later }
def StateCopiesCardSaid : Prop := Claim7.holds Tryz.pinned (.plain (OpenSpec.ofChange stateCopiesSpec)) stateCopiesCard

/-- THE SECOND FORM's CARD OF 'flipbooklaw11.StateBytes'. -/
def stateBytesUptoCard : Claim7 := { stood := { row := stateBytesUptoRow, standIns := [], harness := (true, "0ab91335e69f89b0f00c1c3bdd9b2274d57198cf513a269aeeb74fd764b5669f"), looks := false }, kinds := [], alts := [], laidByText := true, laidKinds := [.data, .data, .data, .data, .data, .data, .pinned], laidTests := true, laidLooks := .later }
def StateBytesUptoCardSaid : Prop := Claim7.holds Tryz.pinned (.plain (OpenSpec.upto stateBytesSpec)) stateBytesUptoCard

/-- THE SECOND FORM's CARD OF 'flipbooklaw11.StateCuts'. -/
def stateCutsUptoCard : Claim7 := { stood := { row := stateCutsUptoRow, standIns := [], harness := (true, "0ab91335e69f89b0f00c1c3bdd9b2274d57198cf513a269aeeb74fd764b5669f"), looks := false }, kinds := [], alts := [], laidByText := true, laidKinds := [.data, .data, .data, .data, .data, .data, .pinned], laidTests := true, laidLooks := .later }
def StateCutsUptoCardSaid : Prop := Claim7.holds Tryz.pinned (.plain (OpenSpec.upto stateCutsSpec)) stateCutsUptoCard

/-- THE SECOND FORM's CARD OF 'flipbooklaw11.StateBack'. -/
def stateBackUptoCard : Claim7 := { stood := { row := stateBackUptoRow, standIns := [], harness := (true, "0ab91335e69f89b0f00c1c3bdd9b2274d57198cf513a269aeeb74fd764b5669f"), looks := false }, kinds := [], alts := [], laidByText := true, laidKinds := [.data, .data, .data, .data, .data, .data, .pinned], laidTests := true, laidLooks := .later }
def StateBackUptoCardSaid : Prop := Claim7.holds Tryz.pinned (.plain (OpenSpec.upto stateBackSpec)) stateBackUptoCard

/-- THE SECOND FORM's CARD OF 'flipbooklaw11.StateGoes'. -/
def stateGoesUptoCard : Claim7 := { stood := { row := stateGoesUptoRow, standIns := [], harness := (true, "0ab91335e69f89b0f00c1c3bdd9b2274d57198cf513a269aeeb74fd764b5669f"), looks := false }, kinds := [], alts := [], laidByText := true, laidKinds := [.data, .data, .data, .data, .data, .data, .pinned], laidTests := true, laidLooks := .later }
def StateGoesUptoCardSaid : Prop := Claim7.holds Tryz.pinned (.plain (OpenSpec.upto stateGoesSpec)) stateGoesUptoCard

/-- THE SECOND FORM's CARD OF 'flipbooklaw11.StateUnlike'. -/
def stateUnlikeUptoCard : Claim7 := { stood := { row := stateUnlikeUptoRow, standIns := [], harness := (true, "0ab91335e69f89b0f00c1c3bdd9b2274d57198cf513a269aeeb74fd764b5669f"), looks := false }, kinds := [], alts := [], laidByText := true, laidKinds := [.data, .data, .data, .data, .data, .data, .pinned], laidTests := true, laidLooks := .later }
def StateUnlikeUptoCardSaid : Prop := Claim7.holds Tryz.pinned (.plain (OpenSpec.upto stateUnlikeSpec)) stateUnlikeUptoCard

/-- THE SECOND FORM's CARD OF 'flipbooklaw11.StateCopies'. -/
def stateCopiesUptoCard : Claim7 := { stood := { row := stateCopiesUptoRow, standIns := [], harness := (true, "0ab91335e69f89b0f00c1c3bdd9b2274d57198cf513a269aeeb74fd764b5669f"), looks := false }, kinds := [], alts := [], laidByText := true, laidKinds := [.data, .data, .data, .data, .data, .data, .pinned], laidTests := true, laidLooks := .later }
def StateCopiesUptoCardSaid : Prop := Claim7.holds Tryz.pinned (.plain (OpenSpec.upto stateCopiesSpec)) stateCopiesUptoCard
end Rows
end Go.Proofs.YtclnfbmmaofpjaaGreatDoor
