/-
  DERIVED. GIVEN WITH THE SEED: THE CARDS: each row of YtjjcnhgpccancaaGreatDoorRows.lean that lists a variable, with what it lists TIED to the program's text (the seventh form; the later family's looks); each row that meets fmt, with fmt's text TOLD by the authors' own Lean function (tested against real Go, not proved from fmt's source: count such statements apart). THE CARD IS WHAT COUNTS. Prove the row's statement (the work); the ties are given (YtjjcnhgpccancaaGreatDoorTie.lean); close each card by the builder's one call (the guide's Derived/Test/ToyasCard.lean, 'card_holds'). Laid BY PROGRAM, IN A SANDBOX (cutbox-door.mjs). By AI agents, Wed Nov 11 2026. No macro, syntax, notation, axiom, sorry.
-/
import Derived.Test.YtjjcnhgpccancaaGreatDoorRows
import GoSem.ClaimSeven
namespace Go.Proofs.YtjjcnhgpccancaaGreatDoor
namespace Rows

/-- THE TIED CARD OF 'flipbooklaw13.LogBack'. -/
def logBackCard : Claim7 := { stood := { row := logBackRow, standIns := [], harness := (true, "2b54949b506e2926f88e7eea2b840edd9a6a7340db8b0d167da3910ee1a9c266"), looks := false }, kinds := [], alts := [], laidByText := true, laidKinds := [.data, .data, .data, .data, .data, .data, .pinned], laidTests := true, laidLooks := .later }
def LogBackCardSaid : Prop := Claim7.holds Tryz.pinned (.plain (OpenSpec.ofChange logBackSpec)) logBackCard

/-- THE TIED CARD OF 'flipbooklaw13.LogBytes'. -/
def logBytesCard : Claim7 := { stood := { row := logBytesRow, standIns := [], harness := (true, "2b54949b506e2926f88e7eea2b840edd9a6a7340db8b0d167da3910ee1a9c266"), looks := false }, kinds := [], alts := [], laidByText := true, laidKinds := [.data, .data, .data, .data, .data, .data, .pinned], laidTests := true, laidLooks := .later }
def LogBytesCardSaid : Prop := Claim7.holds Tryz.pinned (.plain (OpenSpec.ofChange logBytesSpec)) logBytesCard

/-- THE TIED CARD OF 'flipbooklaw13.LogKeys'. -/
def logKeysCard : Claim7 := { stood := { row := logKeysRow, standIns := [], harness := (true, "2b54949b506e2926f88e7eea2b840edd9a6a7340db8b0d167da3910ee1a9c266"), looks := false }, kinds := [], alts := [], laidByText := true, laidKinds := [.data, .data, .data, .data, .data, .data, .pinned], laidTests := true, laidLooks := .later }
def LogKeysCardSaid : Prop := Claim7.holds Tryz.pinned (.plain (OpenSpec.ofChange logKeysSpec)) logKeysCard

/-- THE TIED CARD OF 'flipbooklaw13.LogKeyless'. -/
def logKeylessCard : Claim7 := { stood := { row := logKeylessRow, standIns := [], harness := (true, "2b54949b506e2926f88e7eea2b840edd9a6a7340db8b0d167da3910ee1a9c266"), looks := false }, kinds := [], alts := [], laidByText := true, laidKinds := [.data, .data, .data, .data, .data, .data, .pinned], laidTests := true, laidLooks := .later }
def LogKeylessCardSaid : Prop := Claim7.holds Tryz.pinned (.plain (OpenSpec.ofChange logKeylessSpec)) logKeylessCard

/-- THE TIED CARD OF 'flipbooklaw13.LogAny'. -/
def logAnyCard : Claim7 := { stood := { row := logAnyRow, standIns := [], harness := (true, "2b54949b506e2926f88e7eea2b840edd9a6a7340db8b0d167da3910ee1a9c266"), looks := false }, kinds := [], alts := [], laidByText := true, laidKinds := [.data, .data, .data, .data, .data, .data, .pinned], laidTests := true, laidLooks := .later }
def LogAnyCardSaid : Prop := Claim7.holds Tryz.pinned (.plain (OpenSpec.ofChange logAnySpec)) logAnyCard

/-- THE TIED CARD OF 'flipbooklaw13.LogSpoils'. -/
def logSpoilsCard : Claim7 := { stood := { row := logSpoilsRow, standIns := [], harness := (true, "2b54949b506e2926f88e7eea2b840edd9a6a7340db8b0d167da3910ee1a9c266"), looks := false }, kinds := [], alts := [], laidByText := true, laidKinds := [.data, .data, .data, .data, .data, .data, .pinned], laidTests := true, laidLooks := .later }
def LogSpoilsCardSaid : Prop := Claim7.holds Tryz.pinned (.plain (OpenSpec.ofChange logSpoilsSpec)) logSpoilsCard

/-- THE TIED CARD OF 'flipbooklaw13.LogQuota'. -/
def logQuotaCard : Claim7 := { stood := { row := logQuotaRow, standIns := [], harness := (true, "2b54949b506e2926f88e7eea2b840edd9a6a7340db8b0d167da3910ee1a9c266"), looks := false }, kinds := [], alts := [], laidByText := true, laidKinds := [.data, .data, .data, .data, .data, .data, .pinned], laidTests := true, laidLooks := .later }
def LogQuotaCardSaid : Prop := Claim7.holds Tryz.pinned (.plain (OpenSpec.ofChange logQuotaSpec)) logQuotaCard

/-- THE TIED CARD OF 'flipbooklaw13.LogFinishes'. -/
def logFinishesCard : Claim7 := { stood := { row := logFinishesRow, standIns := [], harness := (true, "2b54949b506e2926f88e7eea2b840edd9a6a7340db8b0d167da3910ee1a9c266"), looks := false }, kinds := [], alts := [], laidByText := true, laidKinds := [.data, .data, .data, .data, .data, .data, .pinned], laidTests := true, laidLooks := .later }
def LogFinishesCardSaid : Prop := Claim7.holds Tryz.pinned (.plain (OpenSpec.ofChange logFinishesSpec)) logFinishesCard

/-- THE TIED CARD OF 'flipbooklaw13.LogCrash'. -/
def logCrashCard : Claim7 := { stood := { row := logCrashRow, standIns := [], harness := (true, "2b54949b506e2926f88e7eea2b840edd9a6a7340db8b0d167da3910ee1a9c266"), looks := false }, kinds := [], alts := [], laidByText := true, laidKinds := [.data, .data, .data, .data, .data, .data, .pinned], laidTests := true, laidLooks := .later }
def LogCrashCardSaid : Prop := Claim7.holds Tryz.pinned (.plain (OpenSpec.ofChange logCrashSpec)) logCrashCard

/-- THE TIED CARD OF 'flipbooklaw13.LogResumes'. -/
def logResumesCard : Claim7 := { stood := { row := logResumesRow, standIns := [], harness := (true, "2b54949b506e2926f88e7eea2b840edd9a6a7340db8b0d167da3910ee1a9c266"), looks := false }, kinds := [], alts := [], laidByText := true, laidKinds := [.data, .data, .data, .data, .data, .data, .pinned], laidTests := true, laidLooks := .later }
def LogResumesCardSaid : Prop := Claim7.holds Tryz.pinned (.plain (OpenSpec.ofChange logResumesSpec)) logResumesCard

/-- THE TIED CARD OF 'flipbooklaw13.LogFuses'. -/
def logFusesCard : Claim7 := { stood := { row := logFusesRow, standIns := [], harness := (true, "2b54949b506e2926f88e7eea2b840edd9a6a7340db8b0d167da3910ee1a9c266"), looks := false }, kinds := [], alts := [], laidByText := true, laidKinds := [.data, .data, .data, .data, .data, .data, .pinned], laidTests := true, laidLooks := .later }
def LogFusesCardSaid : Prop := Claim7.holds Tryz.pinned (.plain (OpenSpec.ofChange logFusesSpec)) logFusesCard

/-- THE SECOND FORM's CARD OF 'flipbooklaw13.LogBack'. -/
def logBackUptoCard : Claim7 := { stood := { row := logBackUptoRow, standIns := [], harness := (true, "2b54949b506e2926f88e7eea2b840edd9a6a7340db8b0d167da3910ee1a9c266"), looks := false }, kinds := [], alts := [], laidByText := true, laidKinds := [.data, .data, .data, .data, .data, .data, .pinned], laidTests := true, laidLooks := .later }
def LogBackUptoCardSaid : Prop := Claim7.holds Tryz.pinned (.plain (OpenSpec.upto logBackSpec)) logBackUptoCard

/-- THE SECOND FORM's CARD OF 'flipbooklaw13.LogBytes'. -/
def logBytesUptoCard : Claim7 := { stood := { row := logBytesUptoRow, standIns := [], harness := (true, "2b54949b506e2926f88e7eea2b840edd9a6a7340db8b0d167da3910ee1a9c266"), looks := false }, kinds := [], alts := [], laidByText := true, laidKinds := [.data, .data, .data, .data, .data, .data, .pinned], laidTests := true, laidLooks := .later }
def LogBytesUptoCardSaid : Prop := Claim7.holds Tryz.pinned (.plain (OpenSpec.upto logBytesSpec)) logBytesUptoCard

/-- THE SECOND FORM's CARD OF 'flipbooklaw13.LogKeys'. -/
def logKeysUptoCard : Claim7 := { stood := { row := logKeysUptoRow, standIns := [], harness := (true, "2b54949b506e2926f88e7eea2b840edd9a6a7340db8b0d167da3910ee1a9c266"), looks := false }, kinds := [], alts := [], laidByText := true, laidKinds := [.data, .data, .data, .data, .data, .data, .pinned], laidTests := true, laidLooks := .later }
def LogKeysUptoCardSaid : Prop := Claim7.holds Tryz.pinned (.plain (OpenSpec.upto logKeysSpec)) logKeysUptoCard

/-- THE SECOND FORM's CARD OF 'flipbooklaw13.LogKeyless'. -/
def logKeylessUptoCard : Claim7 := { stood := { row := logKeylessUptoRow, standIns := [], harness := (true, "2b54949b506e2926f88e7eea2b840edd9a6a7340db8b0d167da3910ee1a9c266"), looks := false }, kinds := [], alts := [], laidByText := true, laidKinds := [.data, .data, .data, .data, .data, .data, .pinned], laidTests := true, laidLooks := .later }
def LogKeylessUptoCardSaid : Prop := Claim7.holds Tryz.pinned (.plain (OpenSpec.upto logKeylessSpec)) logKeylessUptoCard

/-- THE SECOND FORM's CARD OF 'flipbooklaw13.LogAny'. -/
def logAnyUptoCard : Claim7 := { stood := { row := logAnyUptoRow, standIns := [], harness := (true, "2b54949b506e2926f88e7eea2b840edd9a6a7340db8b0d167da3910ee1a9c266"), looks := false }, kinds := [], alts := [], laidByText := true, laidKinds := [.data, .data, .data, .data, .data, .data, .pinned], laidTests := true, laidLooks := .later }
def LogAnyUptoCardSaid : Prop := Claim7.holds Tryz.pinned (.plain (OpenSpec.upto logAnySpec)) logAnyUptoCard

/-- THE SECOND FORM's CARD OF 'flipbooklaw13.LogSpoils'. -/
def logSpoilsUptoCard : Claim7 := { stood := { row := logSpoilsUptoRow, standIns := [], harness := (true, "2b54949b506e2926f88e7eea2b840edd9a6a7340db8b0d167da3910ee1a9c266"), looks := false }, kinds := [], alts := [], laidByText := true, laidKinds := [.data, .data, .data, .data, .data, .data, .pinned], laidTests := true, laidLooks := .later }
def LogSpoilsUptoCardSaid : Prop := Claim7.holds Tryz.pinned (.plain (OpenSpec.upto logSpoilsSpec)) logSpoilsUptoCard

/-- THE SECOND FORM's CARD OF 'flipbooklaw13.LogQuota'. -/
def logQuotaUptoCard : Claim7 := { stood := { row := logQuotaUptoRow, standIns := [], harness := (true, "2b54949b506e2926f88e7eea2b840edd9a6a7340db8b0d167da3910ee1a9c266"), looks := false }, kinds := [], alts := [], laidByText := true, laidKinds := [.data, .data, .data, .data, .data, .data, .pinned], laidTests := true, laidLooks := .later }
def LogQuotaUptoCardSaid : Prop := Claim7.holds Tryz.pinned (.plain (OpenSpec.upto logQuotaSpec)) logQuotaUptoCard

/-- THE SECOND FORM's CARD OF 'flipbooklaw13.LogFinishes'. -/
def logFinishesUptoCard : Claim7 := { stood := { row := logFinishesUptoRow, standIns := [], harness := (true, "2b54949b506e2926f88e7eea2b840edd9a6a7340db8b0d167da3910ee1a9c266"), looks := false }, kinds := [], alts := [], laidByText := true, laidKinds := [.data, .data, .data, .data, .data, .data, .pinned], laidTests := true, laidLooks := .later }
def LogFinishesUptoCardSaid : Prop := Claim7.holds Tryz.pinned (.plain (OpenSpec.upto logFinishesSpec)) logFinishesUptoCard

/-- THE SECOND FORM's CARD OF 'flipbooklaw13.LogCrash'. -/
def logCrashUptoCard : Claim7 := { stood := { row := logCrashUptoRow, standIns := [], harness := (true, "2b54949b506e2926f88e7eea2b840edd9a6a7340db8b0d167da3910ee1a9c266"), looks := false }, kinds := [], alts := [], laidByText := true, laidKinds := [.data, .data, .data, .data, .data, .data, .pinned], laidTests := true, laidLooks := .later }
def LogCrashUptoCardSaid : Prop := Claim7.holds Tryz.pinned (.plain (OpenSpec.upto logCrashSpec)) logCrashUptoCard

/-- THE SECOND FORM's CARD OF 'flipbooklaw13.LogResumes'. -/
def logResumesUptoCard : Claim7 := { stood := { row := logResumesUptoRow, standIns := [], harness := (true, "2b54949b506e2926f88e7eea2b840edd9a6a7340db8b0d167da3910ee1a9c266"), looks := false }, kinds := [], alts := [], laidByText := true, laidKinds := [.data, .data, .data, .data, .data, .data, .pinned], laidTests := true, laidLooks := .later }
def LogResumesUptoCardSaid : Prop := Claim7.holds Tryz.pinned (.plain (OpenSpec.upto logResumesSpec)) logResumesUptoCard

/-- THE SECOND FORM's CARD OF 'flipbooklaw13.LogFuses'. -/
def logFusesUptoCard : Claim7 := { stood := { row := logFusesUptoRow, standIns := [], harness := (true, "2b54949b506e2926f88e7eea2b840edd9a6a7340db8b0d167da3910ee1a9c266"), looks := false }, kinds := [], alts := [], laidByText := true, laidKinds := [.data, .data, .data, .data, .data, .data, .pinned], laidTests := true, laidLooks := .later }
def LogFusesUptoCardSaid : Prop := Claim7.holds Tryz.pinned (.plain (OpenSpec.upto logFusesSpec)) logFusesUptoCard
end Rows
end Go.Proofs.YtjjcnhgpccancaaGreatDoor
