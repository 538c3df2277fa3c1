/-
  DERIVED. GIVEN WITH THE SEED: THE CARDS: each row of YtcakdalajafmoaaDoorRows.lean that lists a variable, with what it lists TIED to the program's text (the seventh form; the later family's looks); each row that meets fmt, with fmt's text TOLD by the authors' own Lean function (tested against real Go, not proved from fmt's source: count such statements apart). THE CARD IS WHAT COUNTS. Prove the row's statement (the work); the ties are given (YtcakdalajafmoaaDoorTie.lean); close each card by the builder's one call (the guide's Derived/Test/ToyasCard.lean, 'card_holds'). Laid BY PROGRAM, IN A SANDBOX (cutbox-door.mjs). By AI agents, Wed Nov 11 2026. No macro, syntax, notation, axiom, sorry.
-/
import Derived.Test.YtcakdalajafmoaaDoorRows
import GoSem.ClaimSeven
namespace Go.Proofs.YtcakdalajafmoaaDoor
namespace Rows

/-- THE TIED CARD OF 'vesperlaw17.SpriteDigits'. -/
def spriteDigitsCard : Claim7 := { stood := { row := spriteDigitsRow, standIns := [], harness := (true, "c6c55acdbdf268fc88b854490ac52c232cbcad5ca065d884a938844de075df10"), looks := false }, kinds := [], alts := [], laidByText := true, laidKinds := [.data], laidTests := true, laidLooks := .later }
def SpriteDigitsCardSaid : Prop := Claim7.holds Tryd.pinned (.plain (OpenSpec.ofChange spriteDigitsSpec)) spriteDigitsCard

/-- THE TIED CARD OF 'vesperlaw17.SpriteExact'. -/
def spriteExactCard : Claim7 := { stood := { row := spriteExactRow, standIns := [], harness := (true, "c6c55acdbdf268fc88b854490ac52c232cbcad5ca065d884a938844de075df10"), looks := false }, kinds := [], alts := [], laidByText := true, laidKinds := [.data], laidTests := true, laidLooks := .later }
def SpriteExactCardSaid : Prop := Claim7.holds Tryd.pinned (.plain (OpenSpec.ofChange spriteExactSpec)) spriteExactCard

/-- THE SECOND FORM's CARD OF 'vesperlaw17.SpriteDigits'. -/
def spriteDigitsUptoCard : Claim7 := { stood := { row := spriteDigitsUptoRow, standIns := [], harness := (true, "c6c55acdbdf268fc88b854490ac52c232cbcad5ca065d884a938844de075df10"), looks := false }, kinds := [], alts := [], laidByText := true, laidKinds := [.data], laidTests := true, laidLooks := .later }
def SpriteDigitsUptoCardSaid : Prop := Claim7.holds Tryd.pinned (.plain (OpenSpec.upto spriteDigitsSpec)) spriteDigitsUptoCard

/-- THE SECOND FORM's CARD OF 'vesperlaw17.SpriteExact'. -/
def spriteExactUptoCard : Claim7 := { stood := { row := spriteExactUptoRow, standIns := [], harness := (true, "c6c55acdbdf268fc88b854490ac52c232cbcad5ca065d884a938844de075df10"), looks := false }, kinds := [], alts := [], laidByText := true, laidKinds := [.data], laidTests := true, laidLooks := .later }
def SpriteExactUptoCardSaid : Prop := Claim7.holds Tryd.pinned (.plain (OpenSpec.upto spriteExactSpec)) spriteExactUptoCard
end Rows
end Go.Proofs.YtcakdalajafmoaaDoor
