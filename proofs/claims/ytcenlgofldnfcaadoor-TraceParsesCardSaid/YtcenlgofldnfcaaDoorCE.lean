/- TraceParses: any text is read as the document says, twice the same, each trace its owner's own; no condition. -/
import Derived.Test.YtcenlgofldnfcaaDoorCD
import Derived.Test.YtcenlgofldnfcaaDoorRows
import Derived.Lay
import Derived.Test.YtcenlgofldnfcaaDoorCards
import Derived.Test.YtcenlgofldnfcaaDoorTie
import Derived.SevenTiedAt
set_option linter.unusedVariables false
namespace Go.Proofs.YtcenlgofldnfcaaDoor
open Go.ChangeShapes Go.WideShapes Go.ChangeAt Go.RowKit Go.SX
theorem hasM_l09 {W : World} (h : W.ShapedOpen Tryd.prog) : HasM ⟨Tryd.prog, W, []⟩ := ⟨by simp, Go.Proofs.Tryd.laysM145.s1_3 W h⟩
def traceParsesLaid : List (String × DataW Unit) := [("unicode/utf8.acceptRanges", Rows.laid_unicode_utf8_acceptRanges), ("vesper/trace.modes", Rows.laid_vesper_trace_modes), ("unicode/utf8.first", Rows.laid_unicode_utf8_first)]
set_option maxRecDepth 100000 in
theorem traceParses_met (os : Os) (args : Array Value) : laidMetH Tryd.prog traceParsesLaid ((World.laidAll Tryd.prog os traceParsesLaid).forCall (fun _ _ => 0) ⟨#[], args, []⟩).memory :=
  laidMetH_of_parts3 (fuel := 8) (laidMet_laidAll (laid := traceParsesLaid) args (by kernel_rfl) (by kernel_rfl)) (by kernel_rfl) (by kernel_rfl)
set_option maxRecDepth 100000 in
theorem traceParses_lifted (os : Os) (started : os.Started) (H : Type) (enc : TypeId × Value → H) :
    ReturnsInHanded {} Tryd.checked os 8 .any (fun w args => (Rows.traceParsesSpec.pre enc Tryd.prog Tryd.f8 [] false w args ∧ laidMetH Tryd.prog traceParsesLaid w) ∧ sizedMet enc Tryd.prog Tryd.f8 (OpenSpec.ofChange Rows.traceParsesSpec) false w args)
      (Rows.traceParsesSpec.post enc Tryd.prog Tryd.f8 false true false false) := by
  refine law_lifted_shaped (C := Tryd.checked) (tb := 4) (laid := traceParsesLaid) own started (by kernel_rfl) Tryd.func8
    (ChangeSpec.witness_shaped (enc := enc) (C := Tryd.checked) (os := os) (X := fun w _ => laidMetH Tryd.prog traceParsesLaid w) false (World.laidAll Tryd.prog os traceParsesLaid) #[.string ⟨#[]⟩] 8 (World.laidAll_os _ _ _) (World.shaped_of_RefB (by kernel_rfl) (by kernel_rfl)) (by kernel_rfl) (by kernel_rfl) (by kernel_rfl) (traceParses_met os _)) rfl laidOut (by kernel_rfl) rfl Tryd.underlying4 ?_ ?_
  · intro ds hl
    match ds, hl with
    | [d0], _ => rfl
  · intro W base args ds p hval hL hsh hA
    rw [Tryd.params8] at hA hval
    obtain ⟨v0, d0, rfl, rfl, h0⟩ := trodAll_one hA
    have k0 := hval 0 9 v0 rfl rfl
    obtain ⟨s0, rfl, hs0⟩ := okWide_string Tryd.underlying9 k0
    have hm : (maxLen : Nat) = 9223372036854775807 := rfl
    exact SCall.below (TraceParses_spec rfl (modes_of (by kernel_rfl) hL (.tail _ (.head _))) (hasM_l09 hsh))
theorem traceParses_said : Rows.TraceParsesSaid :=
  OpenClaim.holds_of_wide 8 Tryd.f8 rfl rfl rfl rfl rfl rfl rfl ⟨rfl, rfl, rfl, rfl, rfl⟩ rfl rfl rfl rfl rfl (by kernel_rfl) Tryd.func8 (by kernel_rfl)
    (of_decide_eq_true (by kernel_rfl)) (by unfold Func.isWrapper; first | (rw [if_pos (by decide +kernel)]; kernel_rfl) | (rw [if_neg (by decide +kernel)]; exact ⟨rfl, rfl⟩))
    (fun os started H enc _ => traceParses_lifted os started H enc)
/-- The card. -/
theorem traceParses_holds : Rows.TraceParsesCardSaid :=
  Claim7.holds_tied_plain_at .later [] [.data, .data, .pinned] true (true, "1a66db01adec80db3df8f5837dbcf00f1e5ab4836d58f49b6c4b7dcb67987d7a") true
    traceParses_said (fun _ h => by cases h) (by kernel_rfl) (fun _ h => by cases h) traceParses_row_tie rfl ⟨rfl, rfl⟩ (by kernel_rfl) rfl
    (fun f fn hf hfn => by
      obtain rfl : f = 8 := Option.some.inj ((show Tryd.prog.funcNamed "vesper/vesperlaw09.TraceParses" = some 8 by kernel_rfl).symm.trans hf) |>.symm
      obtain rfl : fn = Tryd.f8 := (Option.some.inj (Tryd.func8.symm.trans hfn)).symm
      exact ⟨by kernel_rfl, fun j t ht => by
        rw [Tryd.params8] at ht
        have hm : t ∈ [9] := by simpa using Array.mem_of_getElem? ht
        have hall : ([9].all fun u => !Tryd.prog.wantsStandIn u) = true := by kernel_rfl
        exact (show Tryd.prog.wantsStandIn t = false by simpa using List.all_eq_true.1 hall t hm)⟩)
    (by kernel_rfl)
#print axioms traceParses_holds
end Go.Proofs.YtcenlgofldnfcaaDoor
