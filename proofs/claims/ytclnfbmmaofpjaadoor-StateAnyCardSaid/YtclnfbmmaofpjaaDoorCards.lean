/-
  DERIVED. GIVEN WITH THE SEED: THE CARDS: each row of YtclnfbmmaofpjaaDoorRows.lean that lists a variable, with what it lists TIED to the program's text (the seventh form; the later family's looks); each row that meets fmt, with fmt's text TOLD by the authors' own Lean function (tested against real Go, not proved from fmt's source: count such statements apart). THE CARD IS WHAT COUNTS. Prove the row's statement (the work); the ties are given (YtclnfbmmaofpjaaDoorTie.lean); close each card by the builder's one call (the guide's Derived/Test/ToyasCard.lean, 'card_holds'). Laid BY PROGRAM, IN A SANDBOX (cutbox-door.mjs). By AI agents, Wed Nov 11 2026. No macro, syntax, notation, axiom, sorry.
-/
import Derived.Test.YtclnfbmmaofpjaaDoorRows
import GoSem.ClaimSeven
namespace Go.Proofs.YtclnfbmmaofpjaaDoor
namespace Rows

/-- THE TIED CARD OF 'flipbooklaw11.StateAny'. -/
def stateAnyCard : Claim7 := { stood := { row := stateAnyRow, standIns := [], harness := (true, "58b08258181541b1b6bc0d2f8a5f9463a907b71ee92e9178bb3b0ca020637fa7"), looks := false }, kinds := [], alts := [], laidByText := true, laidKinds := [.data, .data, .pinned], laidTests := true, laidLooks := .later }
def StateAnyCardSaid : Prop := Claim7.holds Tryd.pinned (.plain (OpenSpec.ofChange stateAnySpec)) stateAnyCard

/-- THE SECOND FORM's CARD OF 'flipbooklaw11.StateAny'. -/
def stateAnyUptoCard : Claim7 := { stood := { row := stateAnyUptoRow, standIns := [], harness := (true, "58b08258181541b1b6bc0d2f8a5f9463a907b71ee92e9178bb3b0ca020637fa7"), looks := false }, kinds := [], alts := [], laidByText := true, laidKinds := [.data, .data, .pinned], laidTests := true, laidLooks := .later }
def StateAnyUptoCardSaid : Prop := Claim7.holds Tryd.pinned (.plain (OpenSpec.upto stateAnySpec)) stateAnyUptoCard
end Rows
end Go.Proofs.YtclnfbmmaofpjaaDoor
