/- OpsWords: of all 65536 words those that are orders are just the words of these orders, 47024 of them; a closed sentence, no condition. -/
import Derived.Test.YthhogfnghaikaaaCW7
import Derived.Test.YthhogfnghaikaaaRows
import Derived.Test.YthhogfnghaikaaaCSxOpen
set_option linter.unusedVariables false
namespace Go.Proofs.Ythhogfnghaikaaa
open Go.ChangeShapes Go.WideShapes Go.ChangeAt Go.RowKit Go.SX
theorem own : ownKnob Try.prog.godebug = none := by kernel_rfl
theorem laidOut : laidOutB Try.prog = true := by kernel_rfl
set_option maxRecDepth 100000 in
theorem opsWords_lifted (os : Os) (started : os.Started) (H : Type) (enc : TypeId × Value → H) :
    ReturnsInHanded {} Try.checked os 4 .any (Rows.opsWordsSpec.pre6 enc Try.prog Try.f4 Rows.opsWordsRow.domain false) (Rows.opsWordsSpec.post enc Try.prog Try.f4 false true false false) := by
  refine law_lifted (C := Try.checked) (tb := 4) own started (by kernel_rfl) Try.func4
    (ChangeSpec.witness6 (enc := enc) (C := Try.checked) false ⟨#[], #[], []⟩ 8 (by kernel_rfl) (by kernel_rfl) (by kernel_rfl) (by kernel_rfl)) rfl laidOut (by kernel_rfl) rfl Try.underlying4 ?_ ?_
  · intro ds hl
    match ds, hl with
    | [], _ => rfl
  · intro W base args ds p hval hA
    rw [Try.params4] at hA
    obtain ⟨rfl, rfl, rfl⟩ := trodAll_none hA
    have hm : (maxLen : Nat) = 9223372036854775807 := rfl
    exact SCall.below (OpsWords_spec rfl)
theorem opsWords_said : Rows.OpsWordsSaid :=
  OpenClaim.holds_of_wide 4 Try.f4 rfl rfl rfl rfl rfl rfl rfl ⟨rfl, rfl, rfl, rfl, rfl⟩ rfl rfl rfl rfl rfl (by kernel_rfl) Try.func4 (by kernel_rfl)
    (of_decide_eq_true (by kernel_rfl)) (by unfold Func.isWrapper; first | (rw [if_pos (by decide +kernel)]; kernel_rfl) | (rw [if_neg (by decide +kernel)]; exact ⟨rfl, rfl⟩))
    (fun os started H enc _ => opsWords_lifted os started H enc)
#print axioms opsWords_said
end Go.Proofs.Ythhogfnghaikaaa
