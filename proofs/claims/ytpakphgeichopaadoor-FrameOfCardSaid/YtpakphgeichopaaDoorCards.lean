/-
  DERIVED. GIVEN WITH THE SEED: THE CARDS: each row of YtpakphgeichopaaDoorRows.lean that lists a variable, with what it lists TIED to the program's text (the seventh form; the later family's looks); each row that meets fmt, with fmt's text TOLD by the authors' own Lean function (tested against real Go, not proved from fmt's source: count such statements apart). THE CARD IS WHAT COUNTS. Prove the row's statement (the work); the ties are given (YtpakphgeichopaaDoorTie.lean); close each card by the builder's one call (the guide's Derived/Test/ToyasCard.lean, 'card_holds'). Laid BY PROGRAM, IN A SANDBOX (cutbox-door.mjs). By AI agents, Wed Nov 11 2026. No macro, syntax, notation, axiom, sorry.
-/
import Derived.Test.YtpakphgeichopaaDoorRows
import GoSem.ClaimSeven
namespace Go.Proofs.YtpakphgeichopaaDoor
namespace Rows

/-- THE TIED CARD OF 'vesperlaw10.FrameNames'. -/
def frameNamesCard : Claim7 := { stood := { row := frameNamesRow, standIns := [], harness := (true, "bfff95df58350ba051ad0f59e866c79548283fd8b0d893cfa70888a4ef130374"), looks := false }, kinds := [], alts := [], laidByText := true, laidKinds := [.widerDeep], laidTests := true, laidLooks := .later }
def FrameNamesCardSaid : Prop := Claim7.holds Tryd.pinned (.plain (OpenSpec.ofChange frameNamesSpec)) frameNamesCard

/-- THE TIED CARD OF 'vesperlaw10.FrameOf'. -/
def frameOfCard : Claim7 := { stood := { row := frameOfRow, standIns := [], harness := (true, "bfff95df58350ba051ad0f59e866c79548283fd8b0d893cfa70888a4ef130374"), looks := false }, kinds := [], alts := [], laidByText := true, laidKinds := [.widerDeep], laidTests := true, laidLooks := .later }
def FrameOfCardSaid : Prop := Claim7.holds Tryd.pinned (.plain (OpenSpec.ofChange frameOfSpec)) frameOfCard

/-- THE TIED CARD OF 'vesperlaw10.FrameRuns'. -/
def frameRunsCard : Claim7 := { stood := { row := frameRunsRow, standIns := [], harness := (true, "bfff95df58350ba051ad0f59e866c79548283fd8b0d893cfa70888a4ef130374"), looks := false }, kinds := [], alts := [], laidByText := true, laidKinds := [.widerDeep], laidTests := true, laidLooks := .later }
def FrameRunsCardSaid : Prop := Claim7.holds Tryd.pinned (.plain (OpenSpec.ofChange frameRunsSpec)) frameRunsCard

/-- THE TIED CARD OF 'vesperlaw10.FrameShows'. -/
def frameShowsCard : Claim7 := { stood := { row := frameShowsRow, standIns := [], harness := (true, "bfff95df58350ba051ad0f59e866c79548283fd8b0d893cfa70888a4ef130374"), looks := false }, kinds := [], alts := [], laidByText := true, laidKinds := [.widerDeep], laidTests := true, laidLooks := .later }
def FrameShowsCardSaid : Prop := Claim7.holds Tryd.pinned (.plain (OpenSpec.ofChange frameShowsSpec)) frameShowsCard

/-- THE TIED CARD OF 'vesperlaw10.FrameParts'. -/
def framePartsCard : Claim7 := { stood := { row := framePartsRow, standIns := [], harness := (true, "bfff95df58350ba051ad0f59e866c79548283fd8b0d893cfa70888a4ef130374"), looks := false }, kinds := [], alts := [], laidByText := true, laidKinds := [.widerDeep], laidTests := true, laidLooks := .later }
def FramePartsCardSaid : Prop := Claim7.holds Tryd.pinned (.plain (OpenSpec.ofChange framePartsSpec)) framePartsCard

/-- THE TIED CARD OF 'vesperlaw10.FramePages'. -/
def framePagesCard : Claim7 := { stood := { row := framePagesRow, standIns := [], harness := (true, "bfff95df58350ba051ad0f59e866c79548283fd8b0d893cfa70888a4ef130374"), looks := false }, kinds := [], alts := [], laidByText := true, laidKinds := [.widerDeep], laidTests := true, laidLooks := .later }
def FramePagesCardSaid : Prop := Claim7.holds Tryd.pinned (.plain (OpenSpec.ofChange framePagesSpec)) framePagesCard

/-- THE TIED CARD OF 'vesperlaw10.FrameReads'. -/
def frameReadsCard : Claim7 := { stood := { row := frameReadsRow, standIns := [], harness := (true, "bfff95df58350ba051ad0f59e866c79548283fd8b0d893cfa70888a4ef130374"), looks := false }, kinds := [], alts := [], laidByText := true, laidKinds := [.widerDeep], laidTests := true, laidLooks := .later }
def FrameReadsCardSaid : Prop := Claim7.holds Tryd.pinned (.plain (OpenSpec.ofChange frameReadsSpec)) frameReadsCard

/-- THE TIED CARD OF 'vesperlaw10.FrameBack'. -/
def frameBackCard : Claim7 := { stood := { row := frameBackRow, standIns := [], harness := (true, "bfff95df58350ba051ad0f59e866c79548283fd8b0d893cfa70888a4ef130374"), looks := false }, kinds := [], alts := [], laidByText := true, laidKinds := [.widerDeep], laidTests := true, laidLooks := .later }
def FrameBackCardSaid : Prop := Claim7.holds Tryd.pinned (.plain (OpenSpec.ofChange frameBackSpec)) frameBackCard

/-- THE SECOND FORM's CARD OF 'vesperlaw10.FrameNames'. -/
def frameNamesUptoCard : Claim7 := { stood := { row := frameNamesUptoRow, standIns := [], harness := (true, "bfff95df58350ba051ad0f59e866c79548283fd8b0d893cfa70888a4ef130374"), looks := false }, kinds := [], alts := [], laidByText := true, laidKinds := [.widerDeep], laidTests := true, laidLooks := .later }
def FrameNamesUptoCardSaid : Prop := Claim7.holds Tryd.pinned (.plain (OpenSpec.upto frameNamesSpec)) frameNamesUptoCard

/-- THE SECOND FORM's CARD OF 'vesperlaw10.FrameOf'. -/
def frameOfUptoCard : Claim7 := { stood := { row := frameOfUptoRow, standIns := [], harness := (true, "bfff95df58350ba051ad0f59e866c79548283fd8b0d893cfa70888a4ef130374"), looks := false }, kinds := [], alts := [], laidByText := true, laidKinds := [.widerDeep], laidTests := true, laidLooks := .later }
def FrameOfUptoCardSaid : Prop := Claim7.holds Tryd.pinned (.plain (OpenSpec.upto frameOfSpec)) frameOfUptoCard

/-- THE SECOND FORM's CARD OF 'vesperlaw10.FrameRuns'. -/
def frameRunsUptoCard : Claim7 := { stood := { row := frameRunsUptoRow, standIns := [], harness := (true, "bfff95df58350ba051ad0f59e866c79548283fd8b0d893cfa70888a4ef130374"), looks := false }, kinds := [], alts := [], laidByText := true, laidKinds := [.widerDeep], laidTests := true, laidLooks := .later }
def FrameRunsUptoCardSaid : Prop := Claim7.holds Tryd.pinned (.plain (OpenSpec.upto frameRunsSpec)) frameRunsUptoCard

/-- THE SECOND FORM's CARD OF 'vesperlaw10.FrameShows'. -/
def frameShowsUptoCard : Claim7 := { stood := { row := frameShowsUptoRow, standIns := [], harness := (true, "bfff95df58350ba051ad0f59e866c79548283fd8b0d893cfa70888a4ef130374"), looks := false }, kinds := [], alts := [], laidByText := true, laidKinds := [.widerDeep], laidTests := true, laidLooks := .later }
def FrameShowsUptoCardSaid : Prop := Claim7.holds Tryd.pinned (.plain (OpenSpec.upto frameShowsSpec)) frameShowsUptoCard

/-- THE SECOND FORM's CARD OF 'vesperlaw10.FrameParts'. -/
def framePartsUptoCard : Claim7 := { stood := { row := framePartsUptoRow, standIns := [], harness := (true, "bfff95df58350ba051ad0f59e866c79548283fd8b0d893cfa70888a4ef130374"), looks := false }, kinds := [], alts := [], laidByText := true, laidKinds := [.widerDeep], laidTests := true, laidLooks := .later }
def FramePartsUptoCardSaid : Prop := Claim7.holds Tryd.pinned (.plain (OpenSpec.upto framePartsSpec)) framePartsUptoCard

/-- THE SECOND FORM's CARD OF 'vesperlaw10.FramePages'. -/
def framePagesUptoCard : Claim7 := { stood := { row := framePagesUptoRow, standIns := [], harness := (true, "bfff95df58350ba051ad0f59e866c79548283fd8b0d893cfa70888a4ef130374"), looks := false }, kinds := [], alts := [], laidByText := true, laidKinds := [.widerDeep], laidTests := true, laidLooks := .later }
def FramePagesUptoCardSaid : Prop := Claim7.holds Tryd.pinned (.plain (OpenSpec.upto framePagesSpec)) framePagesUptoCard

/-- THE SECOND FORM's CARD OF 'vesperlaw10.FrameReads'. -/
def frameReadsUptoCard : Claim7 := { stood := { row := frameReadsUptoRow, standIns := [], harness := (true, "bfff95df58350ba051ad0f59e866c79548283fd8b0d893cfa70888a4ef130374"), looks := false }, kinds := [], alts := [], laidByText := true, laidKinds := [.widerDeep], laidTests := true, laidLooks := .later }
def FrameReadsUptoCardSaid : Prop := Claim7.holds Tryd.pinned (.plain (OpenSpec.upto frameReadsSpec)) frameReadsUptoCard

/-- THE SECOND FORM's CARD OF 'vesperlaw10.FrameBack'. -/
def frameBackUptoCard : Claim7 := { stood := { row := frameBackUptoRow, standIns := [], harness := (true, "bfff95df58350ba051ad0f59e866c79548283fd8b0d893cfa70888a4ef130374"), looks := false }, kinds := [], alts := [], laidByText := true, laidKinds := [.widerDeep], laidTests := true, laidLooks := .later }
def FrameBackUptoCardSaid : Prop := Claim7.holds Tryd.pinned (.plain (OpenSpec.upto frameBackSpec)) frameBackUptoCard
end Rows
end Go.Proofs.YtpakphgeichopaaDoor
