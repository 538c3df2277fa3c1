/- FrameOf: the frames of any trace are as the document says, twice the same; the records are left as they were; what is handed back is the caller's own; no condition. -/
import Derived.Test.YtpakphgeichopaaDoorCF
import Derived.Test.YtpakphgeichopaaDoorRows
import Derived.Test.YtpakphgeichopaaDoorCards
import Derived.Test.YtpakphgeichopaaDoorTie
import Derived.SevenTiedAt
set_option linter.unusedVariables false
namespace Go.Proofs.YtpakphgeichopaaDoor
open Go.ChangeShapes Go.WideShapes Go.ChangeAt Go.RowKit Go.SX
def frameOfLaid : List (String × DataW Unit) := [("vesper/pixie.shown", Rows.laid_vesper_pixie_shown)]
set_option maxRecDepth 100000 in
theorem frameOf_met (os : Os) (args : Array Value) : laidMetH Tryd.prog frameOfLaid ((World.doorLaid Tryd.prog 400 os).forCall (fun _ _ => 0) ⟨#[], args, []⟩).memory :=
  laidMetH_of_parts3 (fuel := 8) (laidMet_of_run' 8 (by kernel_rfl) (by kernel_rfl)) (by kernel_rfl) (by kernel_rfl)
set_option maxRecDepth 100000 in
theorem frameOf_lifted (os : Os) (started : os.Started) (H : Type) (enc : TypeId × Value → H) :
    ReturnsInHanded {} Tryd.checked os 4 .any (fun w args => (Rows.frameOfSpec.pre enc Tryd.prog Tryd.f4 [] false w args ∧ laidMetH Tryd.prog frameOfLaid w) ∧ sizedMet enc Tryd.prog Tryd.f4 (OpenSpec.ofChange Rows.frameOfSpec) false w args)
      (Rows.frameOfSpec.post enc Tryd.prog Tryd.f4 false true false false) := by
  refine law_lifted_laid (C := Tryd.checked) (tb := 4) (laid := frameOfLaid) own started (by kernel_rfl) Tryd.func4
    (ChangeSpec.witness_shaped (enc := enc) (C := Tryd.checked) (os := os) (X := fun w _ => laidMetH Tryd.prog frameOfLaid w) false (World.doorLaid Tryd.prog 400 os) #[.agg #[.int .i64 0, .int .i64 0, .bool false, .int .i64 0], .slice none 0 0] 8 rfl (World.shaped_of_RefB (by kernel_rfl) (by kernel_rfl)) (by kernel_rfl) (by kernel_rfl) (by kernel_rfl) (frameOf_met os _)) rfl laidOut (by kernel_rfl) rfl Tryd.underlying4 ?_ ?_
  · intro ds hl
    match ds, hl with
    | [d0, d1], _ => rfl
  · intro W base args ds p hval hL hA
    rw [Tryd.params4] at hA hval
    obtain ⟨v0, v1, d0, d1, p0, p1, rfl, rfl, _, h0, h1⟩ := trodAll_two hA
    have k0 := hval 0 24 v0 rfl rfl
    obtain ⟨x0, rfl, wx0, wy0, wz0⟩ := open_ras k0 h0
    have k1 := hval 1 25 v1 rfl rfl
    obtain ⟨l1, hl1, ho1, hm1⟩ := open_recs k1 h1
    have hm : (maxLen : Nat) = 9223372036854775807 := rfl
    exact SCall.below (FrameOf_spec rfl (shown_of (by kernel_rfl) hL (.head _)) hl1 ho1)
theorem frameOf_said : Rows.FrameOfSaid :=
  OpenClaim.holds_of_wide 4 Tryd.f4 rfl rfl rfl rfl rfl rfl rfl ⟨rfl, rfl, rfl, rfl, rfl⟩ rfl rfl rfl rfl rfl (by kernel_rfl) Tryd.func4 (by kernel_rfl)
    (of_decide_eq_true (by kernel_rfl)) (by unfold Func.isWrapper; first | (rw [if_pos (by decide +kernel)]; kernel_rfl) | (rw [if_neg (by decide +kernel)]; exact ⟨rfl, rfl⟩))
    (fun os started H enc _ => frameOf_lifted os started H enc)
/-- The card. -/
theorem frameOf_holds : Rows.FrameOfCardSaid :=
  Claim7.holds_tied_plain_at .later [] [.widerDeep] true (true, "bfff95df58350ba051ad0f59e866c79548283fd8b0d893cfa70888a4ef130374") false
    frameOf_said (fun _ h => by cases h) (by kernel_rfl) (fun _ h => by cases h) frameOf_row_tie rfl ⟨rfl, rfl⟩ (by kernel_rfl) rfl
    (fun f fn hf hfn => by
      obtain rfl : f = 4 := Option.some.inj ((show Tryd.prog.funcNamed "vesper/vesperlaw10.FrameOf" = some 4 by kernel_rfl).symm.trans hf) |>.symm
      obtain rfl : fn = Tryd.f4 := (Option.some.inj (Tryd.func4.symm.trans hfn)).symm
      exact ⟨by kernel_rfl, fun j t ht => by
        rw [Tryd.params4] at ht
        have hm : t ∈ [24, 25] := by simpa using Array.mem_of_getElem? ht
        have hall : ([24, 25].all fun u => !Tryd.prog.wantsStandIn u) = true := by kernel_rfl
        exact (show Tryd.prog.wantsStandIn t = false by simpa using List.all_eq_true.1 hall t hm)⟩)
    (by kernel_rfl)
#print axioms frameOf_holds
end Go.Proofs.YtpakphgeichopaaDoor
