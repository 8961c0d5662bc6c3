/-
  DERIVED. GIVEN WITH THE SEED: THE CARDS: each row of YteoejhjfbfacdaaGreatDoorRows.lean that lists a variable, with what it lists TIED to the program's text (the seventh form; the later family's looks); each row that meets fmt, with fmt's text TOLD by the authors' own Lean function (tested against real Go, not proved from fmt's source: count such statements apart). THE CARD IS WHAT COUNTS. Prove the row's statement (the work); the ties are given (YteoejhjfbfacdaaGreatDoorTie.lean); close each card by the builder's one call (the guide's Derived/Test/ToyasCard.lean, 'card_holds'). Laid BY PROGRAM, IN A SANDBOX (cutbox-door.mjs). By AI agents, Wed Nov 11 2026. No macro, syntax, notation, axiom, sorry.
-/
import Derived.Test.YteoejhjfbfacdaaGreatDoorRows
import GoSem.ClaimSeven
namespace Go.Proofs.YteoejhjfbfacdaaGreatDoor
namespace Rows

/-- THE TIED CARD OF 'flipbooklaw10.TermBytes'. -/
def termBytesCard : Claim7 := { stood := { row := termBytesRow, standIns := [], harness := (true, "97c2676af3a486c9f1987d65de0d03eaedca096d3951160be189250d7d44b19b"), looks := false }, kinds := [], alts := [], laidByText := true, laidKinds := [.data, .data, .data, .data, .data, .data, .pinned], laidTests := true, laidLooks := .later }
def TermBytesCardSaid : Prop := Claim7.holds Tryz.pinned (.plain (OpenSpec.ofChange termBytesSpec)) termBytesCard

/-- THE TIED CARD OF 'flipbooklaw10.TermRuns'. -/
def termRunsCard : Claim7 := { stood := { row := termRunsRow, standIns := [], harness := (true, "97c2676af3a486c9f1987d65de0d03eaedca096d3951160be189250d7d44b19b"), looks := false }, kinds := [], alts := [], laidByText := true, laidKinds := [.data, .data, .data, .data, .data, .data, .pinned], laidTests := true, laidLooks := .later }
def TermRunsCardSaid : Prop := Claim7.holds Tryz.pinned (.plain (OpenSpec.ofChange termRunsSpec)) termRunsCard

/-- THE TIED CARD OF 'flipbooklaw10.TermBounds'. -/
def termBoundsCard : Claim7 := { stood := { row := termBoundsRow, standIns := [], harness := (true, "97c2676af3a486c9f1987d65de0d03eaedca096d3951160be189250d7d44b19b"), looks := false }, kinds := [], alts := [], laidByText := true, laidKinds := [.data, .data, .data, .data, .data, .data, .pinned], laidTests := true, laidLooks := .later }
def TermBoundsCardSaid : Prop := Claim7.holds Tryz.pinned (.plain (OpenSpec.ofChange termBoundsSpec)) termBoundsCard

/-- THE SECOND FORM's CARD OF 'flipbooklaw10.TermBytes'. -/
def termBytesUptoCard : Claim7 := { stood := { row := termBytesUptoRow, standIns := [], harness := (true, "97c2676af3a486c9f1987d65de0d03eaedca096d3951160be189250d7d44b19b"), looks := false }, kinds := [], alts := [], laidByText := true, laidKinds := [.data, .data, .data, .data, .data, .data, .pinned], laidTests := true, laidLooks := .later }
def TermBytesUptoCardSaid : Prop := Claim7.holds Tryz.pinned (.plain (OpenSpec.upto termBytesSpec)) termBytesUptoCard

/-- THE SECOND FORM's CARD OF 'flipbooklaw10.TermRuns'. -/
def termRunsUptoCard : Claim7 := { stood := { row := termRunsUptoRow, standIns := [], harness := (true, "97c2676af3a486c9f1987d65de0d03eaedca096d3951160be189250d7d44b19b"), looks := false }, kinds := [], alts := [], laidByText := true, laidKinds := [.data, .data, .data, .data, .data, .data, .pinned], laidTests := true, laidLooks := .later }
def TermRunsUptoCardSaid : Prop := Claim7.holds Tryz.pinned (.plain (OpenSpec.upto termRunsSpec)) termRunsUptoCard

/-- THE SECOND FORM's CARD OF 'flipbooklaw10.TermBounds'. -/
def termBoundsUptoCard : Claim7 := { stood := { row := termBoundsUptoRow, standIns := [], harness := (true, "97c2676af3a486c9f1987d65de0d03eaedca096d3951160be189250d7d44b19b"), looks := false }, kinds := [], alts := [], laidByText := true, laidKinds := [.data, .data, .data, .data, .data, .data, .pinned], laidTests := true, laidLooks := .later }
def TermBoundsUptoCardSaid : Prop := Claim7.holds Tryz.pinned (.plain (OpenSpec.upto termBoundsSpec)) termBoundsUptoCard
end Rows
end Go.Proofs.YteoejhjfbfacdaaGreatDoor
