/- TraceUnpacks: any bytes are read as the document says, twice the same, each trace its owner's own; the bytes stay as they are; no condition. -/
import Derived.Test.YtcenlgofldnfcaaDoorCD
import Derived.Test.YtcenlgofldnfcaaDoorRows
import Derived.Test.YtcenlgofldnfcaaDoorCards
import Derived.Test.YtcenlgofldnfcaaDoorTie
import Derived.SevenTiedAt
set_option linter.unusedVariables false
namespace Go.Proofs.YtcenlgofldnfcaaDoor
open Go.ChangeShapes Go.WideShapes Go.ChangeAt Go.RowKit Go.SX
def traceUnpacksLaid : List (String × DataW Unit) := [("vesper/trace.modes", Rows.laid_vesper_trace_modes)]
set_option maxRecDepth 100000 in
theorem traceUnpacks_met (os : Os) (args : Array Value) : laidMetH Tryd.prog traceUnpacksLaid ((World.doorLaid Tryd.prog 400 os).forCall (fun _ _ => 0) ⟨#[], args, []⟩).memory :=
  laidMetH_of_parts3 (fuel := 8) (laidMet_of_run' 8 (by kernel_rfl) (by kernel_rfl)) (by kernel_rfl) (by kernel_rfl)
set_option maxRecDepth 100000 in
theorem traceUnpacks_lifted (os : Os) (started : os.Started) (H : Type) (enc : TypeId × Value → H) :
    ReturnsInHanded {} Tryd.checked os 6 .any (fun w args => (Rows.traceUnpacksSpec.pre enc Tryd.prog Tryd.f6 [] false w args ∧ laidMetH Tryd.prog traceUnpacksLaid w) ∧ sizedMet enc Tryd.prog Tryd.f6 (OpenSpec.ofChange Rows.traceUnpacksSpec) false w args)
      (Rows.traceUnpacksSpec.post enc Tryd.prog Tryd.f6 false true false false) := by
  refine law_lifted_laid (C := Tryd.checked) (tb := 4) (laid := traceUnpacksLaid) own started (by kernel_rfl) Tryd.func6
    (ChangeSpec.witness_shaped (enc := enc) (C := Tryd.checked) (os := os) (X := fun w _ => laidMetH Tryd.prog traceUnpacksLaid w) false (World.doorLaid Tryd.prog 400 os) #[.slice none 0 0] 8 rfl (World.shaped_of_RefB (by kernel_rfl) (by kernel_rfl)) (by kernel_rfl) (by kernel_rfl) (by kernel_rfl) (traceUnpacks_met os _)) rfl laidOut (by kernel_rfl) rfl Tryd.underlying4 ?_ ?_
  · intro ds hl
    match ds, hl with
    | [d0], _ => rfl
  · intro W base args ds p hval hL hA
    rw [Tryd.params6] at hA hval
    obtain ⟨v0, d0, rfl, rfl, h0⟩ := trodAll_one hA
    have k0 := hval 0 30 v0 rfl rfl
    obtain ⟨xs0, hx0, hw0, hl0⟩ := open_sl Tryd.underlying30 Tryd.underlying5 cells5 k0 h0
    have hby0 : Byte xs0 := fun n hn => by have := bounds_u8 (hw0 n hn); omega
    have hm : (maxLen : Nat) = 9223372036854775807 := rfl
    exact SCall.below (TraceUnpacks_spec rfl (modes_of (by kernel_rfl) hL (.head _)) hx0 hby0)
theorem traceUnpacks_said : Rows.TraceUnpacksSaid :=
  OpenClaim.holds_of_wide 6 Tryd.f6 rfl rfl rfl rfl rfl rfl rfl ⟨rfl, rfl, rfl, rfl, rfl⟩ rfl rfl rfl rfl rfl (by kernel_rfl) Tryd.func6 (by kernel_rfl)
    (of_decide_eq_true (by kernel_rfl)) (by unfold Func.isWrapper; first | (rw [if_pos (by decide +kernel)]; kernel_rfl) | (rw [if_neg (by decide +kernel)]; exact ⟨rfl, rfl⟩))
    (fun os started H enc _ => traceUnpacks_lifted os started H enc)
/-- The card. -/
theorem traceUnpacks_holds : Rows.TraceUnpacksCardSaid :=
  Claim7.holds_tied_plain_at .later [] [.data] true (true, "1a66db01adec80db3df8f5837dbcf00f1e5ab4836d58f49b6c4b7dcb67987d7a") true
    traceUnpacks_said (fun _ h => by cases h) (by kernel_rfl) (fun _ h => by cases h) traceUnpacks_row_tie rfl ⟨rfl, rfl⟩ (by kernel_rfl) rfl
    (fun f fn hf hfn => by
      obtain rfl : f = 6 := Option.some.inj ((show Tryd.prog.funcNamed "vesper/vesperlaw09.TraceUnpacks" = some 6 by kernel_rfl).symm.trans hf) |>.symm
      obtain rfl : fn = Tryd.f6 := (Option.some.inj (Tryd.func6.symm.trans hfn)).symm
      exact ⟨by kernel_rfl, fun j t ht => by
        rw [Tryd.params6] at ht
        have hm : t ∈ [30] := by simpa using Array.mem_of_getElem? ht
        have hall : ([30].all fun u => !Tryd.prog.wantsStandIn u) = true := by kernel_rfl
        exact (show Tryd.prog.wantsStandIn t = false by simpa using List.all_eq_true.1 hall t hm)⟩)
    (by kernel_rfl)
#print axioms traceUnpacks_holds
end Go.Proofs.YtcenlgofldnfcaaDoor
