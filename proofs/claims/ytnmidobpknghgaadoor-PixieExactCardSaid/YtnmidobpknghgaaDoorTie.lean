/-
  DERIVED. GIVEN WITH THE SEED: THE PROGRAM's TIES (one call each: nine closed facts by the kernel) AND EACH ROW's TIE, after the 31st guide's Derived/Test/Toyas{Tie, Card}.lean. No idea stands in it: it is a product of the set-up. Laid BY PROGRAM, IN A SANDBOX (cutbox-door.mjs). By AI agents, Wed Nov 11 2026. No macro, syntax, notation, axiom, sorry.
-/
import Derived.Test.YtnmidobpknghgaaDoorRows
import Derived.LaidByTextLater
import Derived.SevenTiedAt
import Derived.LaidSub
import Derived.LaidOnce
namespace Go.Proofs.YtnmidobpknghgaaDoor
open Go
set_option maxRecDepth 100000
theorem seatTie1 : Tryd.prog.laidByTextLater [("vesper/pixie.asks", Rows.laid_vesper_pixie_asks), ("vesper/pixie.flags", Rows.laid_vesper_pixie_flags), ("vesper/pixie.shown", Rows.laid_vesper_pixie_shown)] [.widerDeep, .widerDeep, .widerDeep] true :=
  Program.laidByTextLater_by_one 28 8 5 (by kernel_rfl) (by kernel_rfl) (by kernel_rfl) (by kernel_rfl) (by kernel_rfl) (by kernel_rfl) (fun _ _ => by kernel_rfl)
theorem noOwnUnsafe : Tryd.pinned.checked.prog.headLifts.contains "ownunsafe" = false := by kernel_rfl
theorem tie : Tryd.prog.laidByTextLater [("vesper/pixie.asks", Rows.laid_vesper_pixie_asks), ("vesper/pixie.flags", Rows.laid_vesper_pixie_flags), ("vesper/pixie.shown", Rows.laid_vesper_pixie_shown)] [.widerDeep, .widerDeep, .widerDeep] true :=
  Program.laidByTextLater.sub seatTie1 ["vesper/pixie.asks", "vesper/pixie.flags", "vesper/pixie.shown"] (by kernel_rfl) (by kernel_rfl)
theorem pixieWindows_row_tie : Rows.pixieWindowsRow.laidByTextAt .later Tryd.pinned [.widerDeep, .widerDeep, .widerDeep] true :=
  OpenClaim.laidByTextAt_later rfl rfl tie noOwnUnsafe
theorem pixieExact_row_tie : Rows.pixieExactRow.laidByTextAt .later Tryd.pinned [.widerDeep, .widerDeep, .widerDeep] true :=
  OpenClaim.laidByTextAt_later rfl rfl tie noOwnUnsafe
theorem tie2 : Tryd.prog.laidByTextLater [("vesper/pixie.shown", Rows.laid_vesper_pixie_shown)] [.widerDeep] true :=
  Program.laidByTextLater.sub seatTie1 ["vesper/pixie.shown"] (by kernel_rfl) (by kernel_rfl)
theorem pixieHeld_row_tie : Rows.pixieHeldRow.laidByTextAt .later Tryd.pinned [.widerDeep] true :=
  OpenClaim.laidByTextAt_later rfl rfl tie2 noOwnUnsafe
theorem tie3 : Tryd.prog.laidByTextLater [("vesper/pixie.asks", Rows.laid_vesper_pixie_asks), ("vesper/pixie.shown", Rows.laid_vesper_pixie_shown)] [.widerDeep, .widerDeep] true :=
  Program.laidByTextLater.sub seatTie1 ["vesper/pixie.asks", "vesper/pixie.shown"] (by kernel_rfl) (by kernel_rfl)
theorem pixieRound_row_tie : Rows.pixieRoundRow.laidByTextAt .later Tryd.pinned [.widerDeep, .widerDeep] true :=
  OpenClaim.laidByTextAt_later rfl rfl tie3 noOwnUnsafe
theorem pixieWindowsUpto_row_tie : Rows.pixieWindowsUptoRow.laidByTextAt .later Tryd.pinned [.widerDeep, .widerDeep, .widerDeep] true :=
  OpenClaim.laidByTextAt_later rfl rfl tie noOwnUnsafe
theorem pixieHeldUpto_row_tie : Rows.pixieHeldUptoRow.laidByTextAt .later Tryd.pinned [.widerDeep] true :=
  OpenClaim.laidByTextAt_later rfl rfl tie2 noOwnUnsafe
theorem pixieRoundUpto_row_tie : Rows.pixieRoundUptoRow.laidByTextAt .later Tryd.pinned [.widerDeep, .widerDeep] true :=
  OpenClaim.laidByTextAt_later rfl rfl tie3 noOwnUnsafe
theorem pixieExactUpto_row_tie : Rows.pixieExactUptoRow.laidByTextAt .later Tryd.pinned [.widerDeep, .widerDeep, .widerDeep] true :=
  OpenClaim.laidByTextAt_later rfl rfl tie noOwnUnsafe
end Go.Proofs.YtnmidobpknghgaaDoor
