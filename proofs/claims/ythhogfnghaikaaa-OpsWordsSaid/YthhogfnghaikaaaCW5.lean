/- A part of the proof of OpsWordsSaid. -/
import Derived.Test.YthhogfnghaikaaaCW4
set_option linter.unusedVariables false
set_option linter.unusedSimpArgs false
namespace Go.Proofs.Ythhogfnghaikaaa
open Go.RowKit Go.SX
/-! Words and orders: plain laws. -/
theorem mask_all : ((List.range 16).all fun h => (List.range 64).all fun a => (List.range 64).all fun b =>
    ((h * 4096 + a * 64 + b) &&& 61440 == h * 4096) && ((h * 4096 + a * 64 + b) &&& 61455 == h * 4096 + (a * 64 + b) % 16) && ((h * 4096 + a * 64 + b) &&& 61695 == h * 4096 + (a * 64 + b) % 256) && ((h * 4096 + a * 64 + b) &&& 65535 == h * 4096 + a * 64 + b)) = true := by kernel_rfl
theorem masks {i : Nat} (hi : i < 65536) : i &&& 61440 = i / 4096 * 4096 ∧ i &&& 61455 = i / 4096 * 4096 + i % 16 ∧ i &&& 61695 = i / 4096 * 4096 + i % 256 ∧ i &&& 65535 = i := by
  have h1 := List.all_eq_true.1 mask_all (i / 4096) (List.mem_range.2 (by omega))
  have h2 := List.all_eq_true.1 h1 (i % 4096 / 64) (List.mem_range.2 (by omega))
  have h3 := List.all_eq_true.1 h2 (i % 64) (List.mem_range.2 (by omega))
  have e : i / 4096 * 4096 + i % 4096 / 64 * 64 + i % 64 = i := by omega
  simp only [e, Bool.and_eq_true, beq_iff_eq] at h3
  omega
/-- The words of a row. -/
def rowN (r : RowT) : Nat × Nat := if r.mask = 61440 then (4096, 1) else if r.mask = 61455 then (256, 16) else if r.mask = 61695 then (16, 256) else (1, 1)
def chkR (r : RowT) : Bool := (List.range ((rowN r).1 / 16 + 1)).all fun a => (List.range 16).all fun b => decide ((rowN r).1 ≤ a * 16 + b) || (encW (decO (r.word + (a * 16 + b) * (rowN r).2) r) r == r.word + (a * 16 + b) * (rowN r).2)
set_option maxRecDepth 100000 in
theorem chk_all : table.all chkR = true := by kernel_rfl
end Go.Proofs.Ythhogfnghaikaaa
