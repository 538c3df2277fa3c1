/- FrameReads: any text is read as the document says, twice the same; what is read is the caller's own: rows that are written over and grown do not show in another reading; no condition. -/
import Derived.Test.YtpakphgeichopaaDoorCE
import Derived.Test.YtpakphgeichopaaDoorRows
import Derived.Lay
import Derived.Test.YtpakphgeichopaaDoorCards
import Derived.Test.YtpakphgeichopaaDoorTie
import Derived.SevenTiedAt
set_option linter.unusedVariables false
namespace Go.Proofs.YtpakphgeichopaaDoor
open Go.ChangeShapes Go.WideShapes Go.ChangeAt Go.RowKit Go.SX
theorem hasM_l10 {W : World} (h : W.ShapedOpen Tryd.prog) : HasM ⟨Tryd.prog, W, []⟩ := ⟨by simp, Go.Proofs.Tryd.laysM145.s1_3 W h⟩
def frameReadsLaid : List (String × DataW Unit) := [("vesper/pixie.shown", Rows.laid_vesper_pixie_shown)]
set_option maxRecDepth 100000 in
theorem frameReads_met (os : Os) (args : Array Value) : laidMetH Tryd.prog frameReadsLaid ((World.laidAll Tryd.prog os frameReadsLaid).forCall (fun _ _ => 0) ⟨#[], args, []⟩).memory :=
  laidMetH_of_parts3 (fuel := 8) (laidMet_laidAll (laid := frameReadsLaid) args (by kernel_rfl) (by kernel_rfl)) (by kernel_rfl) (by kernel_rfl)
set_option maxRecDepth 100000 in
theorem frameReads_lifted (os : Os) (started : os.Started) (H : Type) (enc : TypeId × Value → H) :
    ReturnsInHanded {} Tryd.checked os 9 .any (fun w args => (Rows.frameReadsSpec.pre enc Tryd.prog Tryd.f9 [] false w args ∧ laidMetH Tryd.prog frameReadsLaid w) ∧ sizedMet enc Tryd.prog Tryd.f9 (OpenSpec.ofChange Rows.frameReadsSpec) false w args)
      (Rows.frameReadsSpec.post enc Tryd.prog Tryd.f9 false true false false) := by
  refine law_lifted_shaped (C := Tryd.checked) (tb := 4) (laid := frameReadsLaid) own started (by kernel_rfl) Tryd.func9
    (ChangeSpec.witness_shaped (enc := enc) (C := Tryd.checked) (os := os) (X := fun w _ => laidMetH Tryd.prog frameReadsLaid w) false (World.laidAll Tryd.prog os frameReadsLaid) #[.string ⟨#[]⟩] 8 (World.laidAll_os _ _ _) (World.shaped_of_RefB (by kernel_rfl) (by kernel_rfl)) (by kernel_rfl) (by kernel_rfl) (by kernel_rfl) (frameReads_met os _)) rfl laidOut (by kernel_rfl) rfl Tryd.underlying4 ?_ ?_
  · intro ds hl
    match ds, hl with
    | [d0], _ => rfl
  · intro W base args ds p hval hL hsh hA
    rw [Tryd.params9] at hA hval
    obtain ⟨v0, d0, rfl, rfl, h0⟩ := trodAll_one hA
    have k0 := hval 0 9 v0 rfl rfl
    obtain ⟨s0, rfl, hs0⟩ := okWide_string Tryd.underlying9 k0
    have hm : (maxLen : Nat) = 9223372036854775807 := rfl
    exact SCall.below (FrameReads_spec rfl (shown_of (by kernel_rfl) hL (.head _)) (hasM_l10 hsh))
theorem frameReads_said : Rows.FrameReadsSaid :=
  OpenClaim.holds_of_wide 9 Tryd.f9 rfl rfl rfl rfl rfl rfl rfl ⟨rfl, rfl, rfl, rfl, rfl⟩ rfl rfl rfl rfl rfl (by kernel_rfl) Tryd.func9 (by kernel_rfl)
    (of_decide_eq_true (by kernel_rfl)) (by unfold Func.isWrapper; first | (rw [if_pos (by decide +kernel)]; kernel_rfl) | (rw [if_neg (by decide +kernel)]; exact ⟨rfl, rfl⟩))
    (fun os started H enc _ => frameReads_lifted os started H enc)
/-- The card. -/
theorem frameReads_holds : Rows.FrameReadsCardSaid :=
  Claim7.holds_tied_plain_at .later [] [.widerDeep] true (true, "bfff95df58350ba051ad0f59e866c79548283fd8b0d893cfa70888a4ef130374") false
    frameReads_said (fun _ h => by cases h) (by kernel_rfl) (fun _ h => by cases h) frameReads_row_tie rfl ⟨rfl, rfl⟩ (by kernel_rfl) rfl
    (fun f fn hf hfn => by
      obtain rfl : f = 9 := Option.some.inj ((show Tryd.prog.funcNamed "vesper/vesperlaw10.FrameReads" = some 9 by kernel_rfl).symm.trans hf) |>.symm
      obtain rfl : fn = Tryd.f9 := (Option.some.inj (Tryd.func9.symm.trans hfn)).symm
      exact ⟨by kernel_rfl, fun j t ht => by
        rw [Tryd.params9] at ht
        have hm : t ∈ [9] := by simpa using Array.mem_of_getElem? ht
        have hall : ([9].all fun u => !Tryd.prog.wantsStandIn u) = true := by kernel_rfl
        exact (show Tryd.prog.wantsStandIn t = false by simpa using List.all_eq_true.1 hall t hm)⟩)
    (by kernel_rfl)
#print axioms frameReads_holds
end Go.Proofs.YtpakphgeichopaaDoor
