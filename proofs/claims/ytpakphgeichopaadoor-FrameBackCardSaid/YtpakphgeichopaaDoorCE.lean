/- FrameBack: a frame that can be shown is read back from its text as it is but for its place; a text that is read is the text of what is read; no condition. -/
import Derived.Test.YtpakphgeichopaaDoorCD
import Derived.Test.YtpakphgeichopaaDoorRows
import Derived.Lay
import Derived.Test.YtpakphgeichopaaDoorCards
import Derived.Test.YtpakphgeichopaaDoorTie
import Derived.SevenTiedAt
set_option linter.unusedVariables false
namespace Go.Proofs.YtpakphgeichopaaDoor
open Go.ChangeShapes Go.WideShapes Go.ChangeAt Go.RowKit Go.SX
theorem hasM_l10 {W : World} (h : W.ShapedOpen Tryd.prog) : HasM ⟨Tryd.prog, W, []⟩ := ⟨by simp, Go.Proofs.Tryd.laysM145.s1_3 W h⟩
def frameBackLaid : List (String × DataW Unit) := [("vesper/pixie.shown", Rows.laid_vesper_pixie_shown)]
set_option maxRecDepth 100000 in
theorem frameBack_met (os : Os) (args : Array Value) : laidMetH Tryd.prog frameBackLaid ((World.laidAll Tryd.prog os frameBackLaid).forCall (fun _ _ => 0) ⟨#[], args, []⟩).memory :=
  laidMetH_of_parts3 (fuel := 8) (laidMet_laidAll (laid := frameBackLaid) args (by kernel_rfl) (by kernel_rfl)) (by kernel_rfl) (by kernel_rfl)
set_option maxRecDepth 100000 in
theorem frameBack_lifted (os : Os) (started : os.Started) (H : Type) (enc : TypeId × Value → H) :
    ReturnsInHanded {} Tryd.checked os 10 .any (fun w args => (Rows.frameBackSpec.pre enc Tryd.prog Tryd.f10 [] false w args ∧ laidMetH Tryd.prog frameBackLaid w) ∧ sizedMet enc Tryd.prog Tryd.f10 (OpenSpec.ofChange Rows.frameBackSpec) false w args)
      (Rows.frameBackSpec.post enc Tryd.prog Tryd.f10 false true false false) := by
  refine law_lifted_shaped (C := Tryd.checked) (tb := 4) (laid := frameBackLaid) own started (by kernel_rfl) Tryd.func10
    (ChangeSpec.witness_shaped (enc := enc) (C := Tryd.checked) (os := os) (X := fun w _ => laidMetH Tryd.prog frameBackLaid w) false (World.laidAll Tryd.prog os frameBackLaid) #[.agg #[.int .i64 0, .slice none 0 0, .bool false], .string ⟨#[]⟩] 8 (World.laidAll_os _ _ _) (World.shaped_of_RefB (by kernel_rfl) (by kernel_rfl)) (by kernel_rfl) (by kernel_rfl) (by kernel_rfl) (frameBack_met os _)) rfl laidOut (by kernel_rfl) rfl Tryd.underlying4 ?_ ?_
  · intro ds hl
    match ds, hl with
    | [d0, d1], _ => rfl
  · intro W base args ds p hval hL hsh hA
    rw [Tryd.params10] at hA hval
    obtain ⟨v0, v1, d0, d1, p0, p1, rfl, rfl, _, h0, h1⟩ := trodAll_two hA
    have k0 := hval 0 41 v0 rfl rfl
    obtain ⟨f, rv, rfl, hr, wf⟩ := open_frame k0 h0
    have k1 := hval 1 9 v1 rfl rfl
    obtain ⟨s1, rfl, hs1⟩ := okWide_string Tryd.underlying9 k1
    have hm : (maxLen : Nat) = 9223372036854775807 := rfl
    exact SCall.below (FrameBack_spec rfl (shown_of (by kernel_rfl) hL (.head _)) (hasM_l10 hsh) hr.1 hr.2.2 hr.by_)
theorem frameBack_said : Rows.FrameBackSaid :=
  OpenClaim.holds_of_wide 10 Tryd.f10 rfl rfl rfl rfl rfl rfl rfl ⟨rfl, rfl, rfl, rfl, rfl⟩ rfl rfl rfl rfl rfl (by kernel_rfl) Tryd.func10 (by kernel_rfl)
    (of_decide_eq_true (by kernel_rfl)) (by unfold Func.isWrapper; first | (rw [if_pos (by decide +kernel)]; kernel_rfl) | (rw [if_neg (by decide +kernel)]; exact ⟨rfl, rfl⟩))
    (fun os started H enc _ => frameBack_lifted os started H enc)
/-- The card. -/
theorem frameBack_holds : Rows.FrameBackCardSaid :=
  Claim7.holds_tied_plain_at .later [] [.widerDeep] true (true, "bfff95df58350ba051ad0f59e866c79548283fd8b0d893cfa70888a4ef130374") false
    frameBack_said (fun _ h => by cases h) (by kernel_rfl) (fun _ h => by cases h) frameBack_row_tie rfl ⟨rfl, rfl⟩ (by kernel_rfl) rfl
    (fun f fn hf hfn => by
      obtain rfl : f = 10 := Option.some.inj ((show Tryd.prog.funcNamed "vesper/vesperlaw10.FrameBack" = some 10 by kernel_rfl).symm.trans hf) |>.symm
      obtain rfl : fn = Tryd.f10 := (Option.some.inj (Tryd.func10.symm.trans hfn)).symm
      exact ⟨by kernel_rfl, fun j t ht => by
        rw [Tryd.params10] at ht
        have hm : t ∈ [41, 9] := by simpa using Array.mem_of_getElem? ht
        have hall : ([41, 9].all fun u => !Tryd.prog.wantsStandIn u) = true := by kernel_rfl
        exact (show Tryd.prog.wantsStandIn t = false by simpa using List.all_eq_true.1 hall t hm)⟩)
    (by kernel_rfl)
#print axioms frameBack_holds
end Go.Proofs.YtpakphgeichopaaDoor
