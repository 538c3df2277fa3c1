/- TraceApart: where any two traces part is as the document says, the same from either side, and nowhere for a trace and itself; no condition. -/
import Derived.Test.YtcenlgofldnfcaaDoorCD
import Derived.Test.YtcenlgofldnfcaaDoorRows
import Derived.Test.YtcenlgofldnfcaaDoorCards
import Derived.Test.YtcenlgofldnfcaaDoorTie
import Derived.SevenTiedAt
set_option linter.unusedVariables false
namespace Go.Proofs.YtcenlgofldnfcaaDoor
open Go.ChangeShapes Go.WideShapes Go.ChangeAt Go.RowKit Go.SX
def traceApartLaid : List (String × DataW Unit) := [("vesper/trace.modes", Rows.laid_vesper_trace_modes)]
set_option maxRecDepth 100000 in
theorem traceApart_met (os : Os) (args : Array Value) : laidMetH Tryd.prog traceApartLaid ((World.doorLaid Tryd.prog 400 os).forCall (fun _ _ => 0) ⟨#[], args, []⟩).memory :=
  laidMetH_of_parts3 (fuel := 8) (laidMet_of_run' 8 (by kernel_rfl) (by kernel_rfl)) (by kernel_rfl) (by kernel_rfl)
set_option maxRecDepth 100000 in
theorem traceApart_lifted (os : Os) (started : os.Started) (H : Type) (enc : TypeId × Value → H) :
    ReturnsInHanded {} Tryd.checked os 7 .any (fun w args => (Rows.traceApartSpec.pre enc Tryd.prog Tryd.f7 [] false w args ∧ laidMetH Tryd.prog traceApartLaid w) ∧ sizedMet enc Tryd.prog Tryd.f7 (OpenSpec.ofChange Rows.traceApartSpec) false w args)
      (Rows.traceApartSpec.post enc Tryd.prog Tryd.f7 false true false false) := by
  refine law_lifted_laid (C := Tryd.checked) (tb := 4) (laid := traceApartLaid) own started (by kernel_rfl) Tryd.func7
    (ChangeSpec.witness_shaped (enc := enc) (C := Tryd.checked) (os := os) (X := fun w _ => laidMetH Tryd.prog traceApartLaid w) false (World.doorLaid Tryd.prog 400 os) #[.slice none 0 0, .slice none 0 0] 8 rfl (World.shaped_of_RefB (by kernel_rfl) (by kernel_rfl)) (by kernel_rfl) (by kernel_rfl) (by kernel_rfl) (traceApart_met os _)) rfl laidOut (by kernel_rfl) rfl Tryd.underlying4 ?_ ?_
  · intro ds hl
    match ds, hl with
    | [d0, d1], _ => rfl
  · intro W base args ds p hval hL hA
    rw [Tryd.params7] at hA hval
    obtain ⟨v0, v1, d0, d1, p0, p1, rfl, rfl, _, h0, h1⟩ := trodAll_two hA
    have k0 := hval 0 23 v0 rfl rfl
    obtain ⟨l0, hl0, ho0, hm0⟩ := open_recs k0 h0
    have k1 := hval 1 23 v1 rfl rfl
    obtain ⟨l1, hl1, ho1, hm1⟩ := open_recs k1 h1
    have hm : (maxLen : Nat) = 9223372036854775807 := rfl
    exact SCall.below (TraceApart_spec rfl (modes_of (by kernel_rfl) hL (.head _)) hl0 hl1 ho0 ho1 hm0 hm1)
theorem traceApart_said : Rows.TraceApartSaid :=
  OpenClaim.holds_of_wide 7 Tryd.f7 rfl rfl rfl rfl rfl rfl rfl ⟨rfl, rfl, rfl, rfl, rfl⟩ rfl rfl rfl rfl rfl (by kernel_rfl) Tryd.func7 (by kernel_rfl)
    (of_decide_eq_true (by kernel_rfl)) (by unfold Func.isWrapper; first | (rw [if_pos (by decide +kernel)]; kernel_rfl) | (rw [if_neg (by decide +kernel)]; exact ⟨rfl, rfl⟩))
    (fun os started H enc _ => traceApart_lifted os started H enc)
/-- The card. -/
theorem traceApart_holds : Rows.TraceApartCardSaid :=
  Claim7.holds_tied_plain_at .later [] [.data] true (true, "1a66db01adec80db3df8f5837dbcf00f1e5ab4836d58f49b6c4b7dcb67987d7a") true
    traceApart_said (fun _ h => by cases h) (by kernel_rfl) (fun _ h => by cases h) traceApart_row_tie rfl ⟨rfl, rfl⟩ (by kernel_rfl) rfl
    (fun f fn hf hfn => by
      obtain rfl : f = 7 := Option.some.inj ((show Tryd.prog.funcNamed "vesper/vesperlaw09.TraceApart" = some 7 by kernel_rfl).symm.trans hf) |>.symm
      obtain rfl : fn = Tryd.f7 := (Option.some.inj (Tryd.func7.symm.trans hfn)).symm
      exact ⟨by kernel_rfl, fun j t ht => by
        rw [Tryd.params7] at ht
        have hm : t ∈ [23, 23] := by simpa using Array.mem_of_getElem? ht
        have hall : ([23, 23].all fun u => !Tryd.prog.wantsStandIn u) = true := by kernel_rfl
        exact (show Tryd.prog.wantsStandIn t = false by simpa using List.all_eq_true.1 hall t hm)⟩)
    (by kernel_rfl)
#print axioms traceApart_holds
end Go.Proofs.YtcenlgofldnfcaaDoor
