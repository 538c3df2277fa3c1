/- OpsLines: a line that is read is just what is printed of what it was read as; no condition. -/
import Derived.Test.YthhogfnghaikaaaDoorCR
import Derived.Test.YthhogfnghaikaaaDoorRows
import Derived.Test.YthhogfnghaikaaaDoorCSxShape
import Derived.Lay
import Derived.Test.YthhogfnghaikaaaDoorCards
import Derived.Test.YthhogfnghaikaaaDoorTie
import Derived.SevenTiedAt
import Derived.Test.YthhogfnghaikaaaDoorCSxOpen
set_option linter.unusedVariables false
namespace Go.Proofs.YthhogfnghaikaaaDoor
open Go.ChangeShapes Go.WideShapes Go.ChangeAt Go.RowKit Go.SX
def opsLinesLaid : List (String × DataW Unit) := [("unicode/utf8.acceptRanges", Rows.laid_unicode_utf8_acceptRanges), ("unicode/utf8.first", Rows.laid_unicode_utf8_first)]
set_option maxRecDepth 100000 in
theorem opsLines_met (os : Os) (args : Array Value) : laidMetH Tryd.prog opsLinesLaid ((World.laidAll Tryd.prog os opsLinesLaid).forCall (fun _ _ => 0) ⟨#[], args, []⟩).memory :=
  laidMetH_of_parts3 (fuel := 8) (laidMet_laidAll (laid := opsLinesLaid) args (by kernel_rfl) (by kernel_rfl)) (by kernel_rfl) (by kernel_rfl)
set_option maxRecDepth 100000 in
theorem opsLines_lifted (os : Os) (started : os.Started) (H : Type) (enc : TypeId × Value → H) :
    ReturnsInHanded {} Tryd.checked os 4 .any (fun w args => (Rows.opsLinesSpec.pre enc Tryd.prog Tryd.f4 [] false w args ∧ laidMetH Tryd.prog opsLinesLaid w) ∧ sizedMet enc Tryd.prog Tryd.f4 (OpenSpec.ofChange Rows.opsLinesSpec) false w args)
      (Rows.opsLinesSpec.post enc Tryd.prog Tryd.f4 false true false false) := by
  refine law_lifted_shaped (C := Tryd.checked) (tb := 4) (laid := opsLinesLaid) own started (by kernel_rfl) Tryd.func4
    (ChangeSpec.witness_shaped (enc := enc) (C := Tryd.checked) (os := os) (X := fun w _ => laidMetH Tryd.prog opsLinesLaid w) false (World.laidAll Tryd.prog os opsLinesLaid) #[.string ⟨#[]⟩] 8 (World.laidAll_os _ _ _) (World.shaped_of_RefB (by kernel_rfl) (by kernel_rfl)) (by kernel_rfl) (by kernel_rfl) (by kernel_rfl) (opsLines_met os _)) rfl laidOut (by kernel_rfl) rfl Tryd.underlying4 ?_ ?_
  · intro ds hl
    match ds, hl with
    | [d0], _ => rfl
  · intro W base args ds p hval hL hsh hA
    rw [Tryd.params4] at hA hval
    obtain ⟨v0, d0, rfl, rfl, h0⟩ := trodAll_one hA
    have k0 := hval 0 9 v0 rfl rfl
    obtain ⟨s, rfl, hsz⟩ := open_str Tryd.underlying9 k0 h0
    have hm : (maxLen : Nat) = 9223372036854775807 := rfl
    exact SCall.below (OpsLines_spec rfl (hasM hsh))
theorem opsLines_said : Rows.OpsLinesSaid :=
  OpenClaim.holds_of_wide 4 Tryd.f4 rfl rfl rfl rfl rfl rfl rfl ⟨rfl, rfl, rfl, rfl, rfl⟩ rfl rfl rfl rfl rfl (by kernel_rfl) Tryd.func4 (by kernel_rfl)
    (of_decide_eq_true (by kernel_rfl)) (by unfold Func.isWrapper; first | (rw [if_pos (by decide +kernel)]; kernel_rfl) | (rw [if_neg (by decide +kernel)]; exact ⟨rfl, rfl⟩))
    (fun os started H enc _ => opsLines_lifted os started H enc)
/-- The card. -/
theorem opsLines_holds : Rows.OpsLinesCardSaid :=
  Claim7.holds_tied_plain_at .later [] [.data, .pinned] true (true, "77ad551aecf5de6e1d0d67d70779a3a5bf9d807e67bd99d15f348e6892cfdc14") false
    opsLines_said (fun _ h => by cases h) (by kernel_rfl) (fun _ h => by cases h) opsLines_row_tie rfl ⟨rfl, rfl⟩ (by kernel_rfl) rfl
    (fun f fn hf hfn => by
      obtain rfl : f = 4 := Option.some.inj ((show Tryd.prog.funcNamed "vesper/vesperlaw16.OpsLines" = some 4 by kernel_rfl).symm.trans hf) |>.symm
      obtain rfl : fn = Tryd.f4 := (Option.some.inj (Tryd.func4.symm.trans hfn)).symm
      exact ⟨by kernel_rfl, fun j t ht => by
        rw [Tryd.params4] at ht
        have hm : t ∈ [9] := by simpa using Array.mem_of_getElem? ht
        have hall : ([9].all fun u => !Tryd.prog.wantsStandIn u) = true := by kernel_rfl
        exact (show Tryd.prog.wantsStandIn t = false by simpa using List.all_eq_true.1 hall t hm)⟩)
    (by kernel_rfl)
#print axioms opsLines_holds
end Go.Proofs.YthhogfnghaikaaaDoor
