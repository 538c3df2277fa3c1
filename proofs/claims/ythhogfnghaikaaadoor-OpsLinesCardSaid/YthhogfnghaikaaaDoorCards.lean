/-
  DERIVED. GIVEN WITH THE SEED: THE CARDS: each row of YthhogfnghaikaaaDoorRows.lean that lists a variable, with what it lists TIED to the program's text (the seventh form; the later family's looks); each row that meets fmt, with fmt's text TOLD by the authors' own Lean function (tested against real Go, not proved from fmt's source: count such statements apart). THE CARD IS WHAT COUNTS. Prove the row's statement (the work); the ties are given (YthhogfnghaikaaaDoorTie.lean); close each card by the builder's one call (the guide's Derived/Test/ToyasCard.lean, 'card_holds'). Laid BY PROGRAM, IN A SANDBOX (cutbox-door.mjs). By AI agents, Wed Nov 11 2026. No macro, syntax, notation, axiom, sorry.
-/
import Derived.Test.YthhogfnghaikaaaDoorRows
import GoSem.ClaimSeven
namespace Go.Proofs.YthhogfnghaikaaaDoor
namespace Rows

/-- THE TIED CARD OF 'vesperlaw16.OpsThere'. -/
def opsThereCard : Claim7 := { stood := { row := opsThereRow, standIns := [], harness := (true, "77ad551aecf5de6e1d0d67d70779a3a5bf9d807e67bd99d15f348e6892cfdc14"), looks := false }, kinds := [], alts := [], laidByText := true, laidKinds := [.data, .pinned], laidTests := true, laidLooks := .later }
def OpsThereCardSaid : Prop := Claim7.holds Tryd.pinned (.plain (OpenSpec.ofChange opsThereSpec)) opsThereCard

/-- THE TIED CARD OF 'vesperlaw16.OpsLines'. -/
def opsLinesCard : Claim7 := { stood := { row := opsLinesRow, standIns := [], harness := (true, "77ad551aecf5de6e1d0d67d70779a3a5bf9d807e67bd99d15f348e6892cfdc14"), looks := false }, kinds := [], alts := [], laidByText := true, laidKinds := [.data, .pinned], laidTests := true, laidLooks := .later }
def OpsLinesCardSaid : Prop := Claim7.holds Tryd.pinned (.plain (OpenSpec.ofChange opsLinesSpec)) opsLinesCard

/-- THE TIED CARD OF 'vesperlaw16.OpsExact'. -/
def opsExactCard : Claim7 := { stood := { row := opsExactRow, standIns := [], harness := (true, "77ad551aecf5de6e1d0d67d70779a3a5bf9d807e67bd99d15f348e6892cfdc14"), looks := false }, kinds := [], alts := [], laidByText := true, laidKinds := [.data, .pinned], laidTests := true, laidLooks := .later }
def OpsExactCardSaid : Prop := Claim7.holds Tryd.pinned (.plain (OpenSpec.ofChange opsExactSpec)) opsExactCard

/-- THE TIED CARD OF 'vesperlaw16.OpsProgram'. -/
def opsProgramCard : Claim7 := { stood := { row := opsProgramRow, standIns := [], harness := (true, "77ad551aecf5de6e1d0d67d70779a3a5bf9d807e67bd99d15f348e6892cfdc14"), looks := false }, kinds := [], alts := [], laidByText := true, laidKinds := [.data, .pinned], laidTests := true, laidLooks := .later }
def OpsProgramCardSaid : Prop := Claim7.holds Tryd.pinned (.plain (OpenSpec.ofChange opsProgramSpec)) opsProgramCard

/-- THE SECOND FORM's CARD OF 'vesperlaw16.OpsThere'. -/
def opsThereUptoCard : Claim7 := { stood := { row := opsThereUptoRow, standIns := [], harness := (true, "77ad551aecf5de6e1d0d67d70779a3a5bf9d807e67bd99d15f348e6892cfdc14"), looks := false }, kinds := [], alts := [], laidByText := true, laidKinds := [.data, .pinned], laidTests := true, laidLooks := .later }
def OpsThereUptoCardSaid : Prop := Claim7.holds Tryd.pinned (.plain (OpenSpec.upto opsThereSpec)) opsThereUptoCard

/-- THE SECOND FORM's CARD OF 'vesperlaw16.OpsLines'. -/
def opsLinesUptoCard : Claim7 := { stood := { row := opsLinesUptoRow, standIns := [], harness := (true, "77ad551aecf5de6e1d0d67d70779a3a5bf9d807e67bd99d15f348e6892cfdc14"), looks := false }, kinds := [], alts := [], laidByText := true, laidKinds := [.data, .pinned], laidTests := true, laidLooks := .later }
def OpsLinesUptoCardSaid : Prop := Claim7.holds Tryd.pinned (.plain (OpenSpec.upto opsLinesSpec)) opsLinesUptoCard

/-- THE SECOND FORM's CARD OF 'vesperlaw16.OpsExact'. -/
def opsExactUptoCard : Claim7 := { stood := { row := opsExactUptoRow, standIns := [], harness := (true, "77ad551aecf5de6e1d0d67d70779a3a5bf9d807e67bd99d15f348e6892cfdc14"), looks := false }, kinds := [], alts := [], laidByText := true, laidKinds := [.data, .pinned], laidTests := true, laidLooks := .later }
def OpsExactUptoCardSaid : Prop := Claim7.holds Tryd.pinned (.plain (OpenSpec.upto opsExactSpec)) opsExactUptoCard

/-- THE SECOND FORM's CARD OF 'vesperlaw16.OpsProgram'. -/
def opsProgramUptoCard : Claim7 := { stood := { row := opsProgramUptoRow, standIns := [], harness := (true, "77ad551aecf5de6e1d0d67d70779a3a5bf9d807e67bd99d15f348e6892cfdc14"), looks := false }, kinds := [], alts := [], laidByText := true, laidKinds := [.data, .pinned], laidTests := true, laidLooks := .later }
def OpsProgramUptoCardSaid : Prop := Claim7.holds Tryd.pinned (.plain (OpenSpec.upto opsProgramSpec)) opsProgramUptoCard
end Rows
end Go.Proofs.YthhogfnghaikaaaDoor
