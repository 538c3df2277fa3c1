/-
  DERIVED. GIVEN WITH THE SEED: THE CARDS: each row of YtcenlgofldnfcaaDoorRows.lean that lists a variable, with what it lists TIED to the program's text (the seventh form; the later family's looks); each row that meets fmt, with fmt's text TOLD by the authors' own Lean function (tested against real Go, not proved from fmt's source: count such statements apart). THE CARD IS WHAT COUNTS. Prove the row's statement (the work); the ties are given (YtcenlgofldnfcaaDoorTie.lean); close each card by the builder's one call (the guide's Derived/Test/ToyasCard.lean, 'card_holds'). Laid BY PROGRAM, IN A SANDBOX (cutbox-door.mjs). By AI agents, Wed Nov 11 2026. No macro, syntax, notation, axiom, sorry.
-/
import Derived.Test.YtcenlgofldnfcaaDoorRows
import GoSem.ClaimSeven
namespace Go.Proofs.YtcenlgofldnfcaaDoor
namespace Rows

/-- THE TIED CARD OF 'vesperlaw09.TraceNames'. -/
def traceNamesCard : Claim7 := { stood := { row := traceNamesRow, standIns := [], harness := (true, "1a66db01adec80db3df8f5837dbcf00f1e5ab4836d58f49b6c4b7dcb67987d7a"), looks := true }, kinds := [], alts := [], laidByText := true, laidKinds := [.data], laidTests := true, laidLooks := .later }
def TraceNamesCardSaid : Prop := Claim7.holds Tryd.pinned (.plain (OpenSpec.ofChange traceNamesSpec)) traceNamesCard

/-- THE TIED CARD OF 'vesperlaw09.TracePrints'. -/
def tracePrintsCard : Claim7 := { stood := { row := tracePrintsRow, standIns := [], harness := (true, "1a66db01adec80db3df8f5837dbcf00f1e5ab4836d58f49b6c4b7dcb67987d7a"), looks := true }, kinds := [], alts := [], laidByText := true, laidKinds := [.data], laidTests := true, laidLooks := .later }
def TracePrintsCardSaid : Prop := Claim7.holds Tryd.pinned (.plain (OpenSpec.ofChange tracePrintsSpec)) tracePrintsCard

/-- THE TIED CARD OF 'vesperlaw09.TracePacks'. -/
def tracePacksCard : Claim7 := { stood := { row := tracePacksRow, standIns := [], harness := (true, "1a66db01adec80db3df8f5837dbcf00f1e5ab4836d58f49b6c4b7dcb67987d7a"), looks := true }, kinds := [], alts := [], laidByText := true, laidKinds := [.data], laidTests := true, laidLooks := .later }
def TracePacksCardSaid : Prop := Claim7.holds Tryd.pinned (.plain (OpenSpec.ofChange tracePacksSpec)) tracePacksCard

/-- THE TIED CARD OF 'vesperlaw09.TraceUnpacks'. -/
def traceUnpacksCard : Claim7 := { stood := { row := traceUnpacksRow, standIns := [], harness := (true, "1a66db01adec80db3df8f5837dbcf00f1e5ab4836d58f49b6c4b7dcb67987d7a"), looks := true }, kinds := [], alts := [], laidByText := true, laidKinds := [.data], laidTests := true, laidLooks := .later }
def TraceUnpacksCardSaid : Prop := Claim7.holds Tryd.pinned (.plain (OpenSpec.ofChange traceUnpacksSpec)) traceUnpacksCard

/-- THE TIED CARD OF 'vesperlaw09.TraceApart'. -/
def traceApartCard : Claim7 := { stood := { row := traceApartRow, standIns := [], harness := (true, "1a66db01adec80db3df8f5837dbcf00f1e5ab4836d58f49b6c4b7dcb67987d7a"), looks := true }, kinds := [], alts := [], laidByText := true, laidKinds := [.data], laidTests := true, laidLooks := .later }
def TraceApartCardSaid : Prop := Claim7.holds Tryd.pinned (.plain (OpenSpec.ofChange traceApartSpec)) traceApartCard

/-- THE TIED CARD OF 'vesperlaw09.TraceParses'. -/
def traceParsesCard : Claim7 := { stood := { row := traceParsesRow, standIns := [], harness := (true, "1a66db01adec80db3df8f5837dbcf00f1e5ab4836d58f49b6c4b7dcb67987d7a"), looks := true }, kinds := [], alts := [], laidByText := true, laidKinds := [.data, .data, .pinned], laidTests := true, laidLooks := .later }
def TraceParsesCardSaid : Prop := Claim7.holds Tryd.pinned (.plain (OpenSpec.ofChange traceParsesSpec)) traceParsesCard

/-- THE TIED CARD OF 'vesperlaw09.TraceBack'. -/
def traceBackCard : Claim7 := { stood := { row := traceBackRow, standIns := [], harness := (true, "1a66db01adec80db3df8f5837dbcf00f1e5ab4836d58f49b6c4b7dcb67987d7a"), looks := true }, kinds := [], alts := [], laidByText := true, laidKinds := [.data, .data, .pinned], laidTests := true, laidLooks := .later }
def TraceBackCardSaid : Prop := Claim7.holds Tryd.pinned (.plain (OpenSpec.ofChange traceBackSpec)) traceBackCard

/-- THE SECOND FORM's CARD OF 'vesperlaw09.TraceNames'. -/
def traceNamesUptoCard : Claim7 := { stood := { row := traceNamesUptoRow, standIns := [], harness := (true, "1a66db01adec80db3df8f5837dbcf00f1e5ab4836d58f49b6c4b7dcb67987d7a"), looks := true }, kinds := [], alts := [], laidByText := true, laidKinds := [.data], laidTests := true, laidLooks := .later }
def TraceNamesUptoCardSaid : Prop := Claim7.holds Tryd.pinned (.plain (OpenSpec.upto traceNamesSpec)) traceNamesUptoCard

/-- THE SECOND FORM's CARD OF 'vesperlaw09.TracePrints'. -/
def tracePrintsUptoCard : Claim7 := { stood := { row := tracePrintsUptoRow, standIns := [], harness := (true, "1a66db01adec80db3df8f5837dbcf00f1e5ab4836d58f49b6c4b7dcb67987d7a"), looks := true }, kinds := [], alts := [], laidByText := true, laidKinds := [.data], laidTests := true, laidLooks := .later }
def TracePrintsUptoCardSaid : Prop := Claim7.holds Tryd.pinned (.plain (OpenSpec.upto tracePrintsSpec)) tracePrintsUptoCard

/-- THE SECOND FORM's CARD OF 'vesperlaw09.TracePacks'. -/
def tracePacksUptoCard : Claim7 := { stood := { row := tracePacksUptoRow, standIns := [], harness := (true, "1a66db01adec80db3df8f5837dbcf00f1e5ab4836d58f49b6c4b7dcb67987d7a"), looks := true }, kinds := [], alts := [], laidByText := true, laidKinds := [.data], laidTests := true, laidLooks := .later }
def TracePacksUptoCardSaid : Prop := Claim7.holds Tryd.pinned (.plain (OpenSpec.upto tracePacksSpec)) tracePacksUptoCard

/-- THE SECOND FORM's CARD OF 'vesperlaw09.TraceUnpacks'. -/
def traceUnpacksUptoCard : Claim7 := { stood := { row := traceUnpacksUptoRow, standIns := [], harness := (true, "1a66db01adec80db3df8f5837dbcf00f1e5ab4836d58f49b6c4b7dcb67987d7a"), looks := true }, kinds := [], alts := [], laidByText := true, laidKinds := [.data], laidTests := true, laidLooks := .later }
def TraceUnpacksUptoCardSaid : Prop := Claim7.holds Tryd.pinned (.plain (OpenSpec.upto traceUnpacksSpec)) traceUnpacksUptoCard

/-- THE SECOND FORM's CARD OF 'vesperlaw09.TraceApart'. -/
def traceApartUptoCard : Claim7 := { stood := { row := traceApartUptoRow, standIns := [], harness := (true, "1a66db01adec80db3df8f5837dbcf00f1e5ab4836d58f49b6c4b7dcb67987d7a"), looks := true }, kinds := [], alts := [], laidByText := true, laidKinds := [.data], laidTests := true, laidLooks := .later }
def TraceApartUptoCardSaid : Prop := Claim7.holds Tryd.pinned (.plain (OpenSpec.upto traceApartSpec)) traceApartUptoCard

/-- THE SECOND FORM's CARD OF 'vesperlaw09.TraceParses'. -/
def traceParsesUptoCard : Claim7 := { stood := { row := traceParsesUptoRow, standIns := [], harness := (true, "1a66db01adec80db3df8f5837dbcf00f1e5ab4836d58f49b6c4b7dcb67987d7a"), looks := true }, kinds := [], alts := [], laidByText := true, laidKinds := [.data, .data, .pinned], laidTests := true, laidLooks := .later }
def TraceParsesUptoCardSaid : Prop := Claim7.holds Tryd.pinned (.plain (OpenSpec.upto traceParsesSpec)) traceParsesUptoCard

/-- THE SECOND FORM's CARD OF 'vesperlaw09.TraceBack'. -/
def traceBackUptoCard : Claim7 := { stood := { row := traceBackUptoRow, standIns := [], harness := (true, "1a66db01adec80db3df8f5837dbcf00f1e5ab4836d58f49b6c4b7dcb67987d7a"), looks := true }, kinds := [], alts := [], laidByText := true, laidKinds := [.data, .data, .pinned], laidTests := true, laidLooks := .later }
def TraceBackUptoCardSaid : Prop := Claim7.holds Tryd.pinned (.plain (OpenSpec.upto traceBackSpec)) traceBackUptoCard
end Rows
end Go.Proofs.YtcenlgofldnfcaaDoor
