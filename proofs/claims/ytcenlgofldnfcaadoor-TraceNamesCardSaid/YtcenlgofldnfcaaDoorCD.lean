/- TraceNames: each limit, error and code has its number, and the document's examples hold; no condition. -/
import Derived.Test.YtcenlgofldnfcaaDoorCC
import Derived.Test.YtcenlgofldnfcaaDoorRows
import Derived.Test.YtcenlgofldnfcaaDoorCards
import Derived.Test.YtcenlgofldnfcaaDoorTie
import Derived.SevenTiedAt
set_option linter.unusedVariables false
namespace Go.Proofs.YtcenlgofldnfcaaDoor
open Go.ChangeShapes Go.WideShapes Go.ChangeAt Go.RowKit Go.SX
def traceNamesLaid : List (String × DataW Unit) := [("vesper/trace.modes", Rows.laid_vesper_trace_modes)]
set_option maxRecDepth 100000 in
theorem traceNames_met (os : Os) (args : Array Value) : laidMetH Tryd.prog traceNamesLaid ((World.doorLaid Tryd.prog 400 os).forCall (fun _ _ => 0) ⟨#[], args, []⟩).memory :=
  laidMetH_of_parts3 (fuel := 8) (laidMet_of_run' 8 (by kernel_rfl) (by kernel_rfl)) (by kernel_rfl) (by kernel_rfl)
set_option maxRecDepth 100000 in
theorem traceNames_lifted (os : Os) (started : os.Started) (H : Type) (enc : TypeId × Value → H) :
    ReturnsInHanded {} Tryd.checked os 3 .any (fun w args => (Rows.traceNamesSpec.pre enc Tryd.prog Tryd.f3 [] false w args ∧ laidMetH Tryd.prog traceNamesLaid w) ∧ sizedMet enc Tryd.prog Tryd.f3 (OpenSpec.ofChange Rows.traceNamesSpec) false w args)
      (Rows.traceNamesSpec.post enc Tryd.prog Tryd.f3 false true false false) := by
  refine law_lifted_laid (C := Tryd.checked) (tb := 4) (laid := traceNamesLaid) own started (by kernel_rfl) Tryd.func3
    (ChangeSpec.witness_shaped (enc := enc) (C := Tryd.checked) (os := os) (X := fun w _ => laidMetH Tryd.prog traceNamesLaid w) false (World.doorLaid Tryd.prog 400 os) #[] 8 rfl (World.shaped_of_RefB (by kernel_rfl) (by kernel_rfl)) (by kernel_rfl) (by kernel_rfl) (by kernel_rfl) (traceNames_met os _)) rfl laidOut (by kernel_rfl) rfl Tryd.underlying4 ?_ ?_
  · intro ds hl
    match ds, hl with
    | [], _ => rfl
  · intro W base args ds p hval hL hA
    rw [Tryd.params3] at hA
    obtain ⟨rfl, rfl, rfl⟩ := trodAll_none hA
    have hm : (maxLen : Nat) = 9223372036854775807 := rfl
    exact SCall.below (TraceNames_spec rfl (modes_of (by kernel_rfl) hL (.head _)))
theorem traceNames_said : Rows.TraceNamesSaid :=
  OpenClaim.holds_of_wide 3 Tryd.f3 rfl rfl rfl rfl rfl rfl rfl ⟨rfl, rfl, rfl, rfl, rfl⟩ rfl rfl rfl rfl rfl (by kernel_rfl) Tryd.func3 (by kernel_rfl)
    (of_decide_eq_true (by kernel_rfl)) (by unfold Func.isWrapper; first | (rw [if_pos (by decide +kernel)]; kernel_rfl) | (rw [if_neg (by decide +kernel)]; exact ⟨rfl, rfl⟩))
    (fun os started H enc _ => traceNames_lifted os started H enc)
/-- The card. -/
theorem traceNames_holds : Rows.TraceNamesCardSaid :=
  Claim7.holds_tied_plain_at .later [] [.data] true (true, "1a66db01adec80db3df8f5837dbcf00f1e5ab4836d58f49b6c4b7dcb67987d7a") true
    traceNames_said (fun _ h => by cases h) (by kernel_rfl) (fun _ h => by cases h) traceNames_row_tie rfl ⟨rfl, rfl⟩ (by kernel_rfl) rfl
    (fun f fn hf hfn => by
      obtain rfl : f = 3 := Option.some.inj ((show Tryd.prog.funcNamed "vesper/vesperlaw09.TraceNames" = some 3 by kernel_rfl).symm.trans hf) |>.symm
      obtain rfl : fn = Tryd.f3 := (Option.some.inj (Tryd.func3.symm.trans hfn)).symm
      exact ⟨by kernel_rfl, fun j t ht => by
        rw [Tryd.params3] at ht
        simp at ht⟩)
    (by kernel_rfl)
#print axioms traceNames_holds
end Go.Proofs.YtcenlgofldnfcaaDoor
