/-
  DERIVED. GIVEN WITH THE SEED: THE CARDS: each row of YtnmidobpknghgaaDoorRows.lean that lists a variable, with what it lists TIED to the program's text (the seventh form; the later family's looks); each row that meets fmt, with fmt's text TOLD by the authors' own Lean function (tested against real Go, not proved from fmt's source: count such statements apart). THE CARD IS WHAT COUNTS. Prove the row's statement (the work); the ties are given (YtnmidobpknghgaaDoorTie.lean); close each card by the builder's one call (the guide's Derived/Test/ToyasCard.lean, 'card_holds'). Laid BY PROGRAM, IN A SANDBOX (cutbox-door.mjs). By AI agents, Wed Nov 11 2026. No macro, syntax, notation, axiom, sorry.
-/
import Derived.Test.YtnmidobpknghgaaDoorRows
import GoSem.ClaimSeven
namespace Go.Proofs.YtnmidobpknghgaaDoor
namespace Rows

/-- THE TIED CARD OF 'vesperlaw05.PixieWindows'. -/
def pixieWindowsCard : Claim7 := { stood := { row := pixieWindowsRow, standIns := [], harness := (true, "219e40bd246185e59efd8742dfcba5cd70159f69e746bee0342b8684d92e22d4"), looks := false }, kinds := [], alts := [], laidByText := true, laidKinds := [.widerDeep, .widerDeep, .widerDeep], laidTests := true, laidLooks := .later }
def PixieWindowsCardSaid : Prop := Claim7.holds Tryd.pinned (.plain (OpenSpec.ofChange pixieWindowsSpec)) pixieWindowsCard

/-- THE TIED CARD OF 'vesperlaw05.PixieHeld'. -/
def pixieHeldCard : Claim7 := { stood := { row := pixieHeldRow, standIns := [], harness := (true, "219e40bd246185e59efd8742dfcba5cd70159f69e746bee0342b8684d92e22d4"), looks := false }, kinds := [], alts := [], laidByText := true, laidKinds := [.widerDeep], laidTests := true, laidLooks := .later }
def PixieHeldCardSaid : Prop := Claim7.holds Tryd.pinned (.plain (OpenSpec.ofChange pixieHeldSpec)) pixieHeldCard

/-- THE TIED CARD OF 'vesperlaw05.PixieRound'. -/
def pixieRoundCard : Claim7 := { stood := { row := pixieRoundRow, standIns := [], harness := (true, "219e40bd246185e59efd8742dfcba5cd70159f69e746bee0342b8684d92e22d4"), looks := false }, kinds := [], alts := [], laidByText := true, laidKinds := [.widerDeep, .widerDeep], laidTests := true, laidLooks := .later }
def PixieRoundCardSaid : Prop := Claim7.holds Tryd.pinned (.plain (OpenSpec.ofChange pixieRoundSpec)) pixieRoundCard

/-- THE TIED CARD OF 'vesperlaw05.PixieExact'. -/
def pixieExactCard : Claim7 := { stood := { row := pixieExactRow, standIns := [], harness := (true, "219e40bd246185e59efd8742dfcba5cd70159f69e746bee0342b8684d92e22d4"), looks := false }, kinds := [], alts := [], laidByText := true, laidKinds := [.widerDeep, .widerDeep, .widerDeep], laidTests := true, laidLooks := .later }
def PixieExactCardSaid : Prop := Claim7.holds Tryd.pinned (.plain (OpenSpec.ofChange pixieExactSpec)) pixieExactCard

/-- THE SECOND FORM's CARD OF 'vesperlaw05.PixieWindows'. -/
def pixieWindowsUptoCard : Claim7 := { stood := { row := pixieWindowsUptoRow, standIns := [], harness := (true, "219e40bd246185e59efd8742dfcba5cd70159f69e746bee0342b8684d92e22d4"), looks := false }, kinds := [], alts := [], laidByText := true, laidKinds := [.widerDeep, .widerDeep, .widerDeep], laidTests := true, laidLooks := .later }
def PixieWindowsUptoCardSaid : Prop := Claim7.holds Tryd.pinned (.plain (OpenSpec.upto pixieWindowsSpec)) pixieWindowsUptoCard

/-- THE SECOND FORM's CARD OF 'vesperlaw05.PixieHeld'. -/
def pixieHeldUptoCard : Claim7 := { stood := { row := pixieHeldUptoRow, standIns := [], harness := (true, "219e40bd246185e59efd8742dfcba5cd70159f69e746bee0342b8684d92e22d4"), looks := false }, kinds := [], alts := [], laidByText := true, laidKinds := [.widerDeep], laidTests := true, laidLooks := .later }
def PixieHeldUptoCardSaid : Prop := Claim7.holds Tryd.pinned (.plain (OpenSpec.upto pixieHeldSpec)) pixieHeldUptoCard

/-- THE SECOND FORM's CARD OF 'vesperlaw05.PixieRound'. -/
def pixieRoundUptoCard : Claim7 := { stood := { row := pixieRoundUptoRow, standIns := [], harness := (true, "219e40bd246185e59efd8742dfcba5cd70159f69e746bee0342b8684d92e22d4"), looks := false }, kinds := [], alts := [], laidByText := true, laidKinds := [.widerDeep, .widerDeep], laidTests := true, laidLooks := .later }
def PixieRoundUptoCardSaid : Prop := Claim7.holds Tryd.pinned (.plain (OpenSpec.upto pixieRoundSpec)) pixieRoundUptoCard

/-- THE SECOND FORM's CARD OF 'vesperlaw05.PixieExact'. -/
def pixieExactUptoCard : Claim7 := { stood := { row := pixieExactUptoRow, standIns := [], harness := (true, "219e40bd246185e59efd8742dfcba5cd70159f69e746bee0342b8684d92e22d4"), looks := false }, kinds := [], alts := [], laidByText := true, laidKinds := [.widerDeep, .widerDeep, .widerDeep], laidTests := true, laidLooks := .later }
def PixieExactUptoCardSaid : Prop := Claim7.holds Tryd.pinned (.plain (OpenSpec.upto pixieExactSpec)) pixieExactUptoCard
end Rows
end Go.Proofs.YtnmidobpknghgaaDoor
