/- ToneCounts: beeps rise and do not touch, just the records within one are high, waves are the beeps' lengths, levels add up to the records; no condition. -/
import Derived.Test.YtkeefmneldflaaaCW13
import Derived.Test.YtkeefmneldflaaaCR
import Derived.Test.YtkeefmneldflaaaRows
import Derived.Test.YtkeefmneldflaaaCSxOpen
set_option linter.unusedVariables false
namespace Go.Proofs.Ytkeefmneldflaaa
open Go.ChangeShapes Go.WideShapes Go.ChangeAt Go.RowKit Go.SX
set_option maxRecDepth 100000 in
theorem toneCounts_lifted (os : Os) (started : os.Started) (H : Type) (enc : TypeId × Value → H) :
    ReturnsInHanded {} Try.checked os 6 .any (Rows.toneCountsSpec.pre6 enc Try.prog Try.f6 Rows.toneCountsRow.domain false) (Rows.toneCountsSpec.post enc Try.prog Try.f6 false true false false) := by
  refine law_lifted (C := Try.checked) (tb := 4) own started (by kernel_rfl) Try.func6
    (ChangeSpec.witness6 (enc := enc) (C := Try.checked) false ⟨#[], #[.slice none 0 0], []⟩ 8 (by kernel_rfl) (by kernel_rfl) (by kernel_rfl) (by kernel_rfl)) rfl laidOut (by kernel_rfl) rfl Try.underlying4 ?_ ?_
  · intro ds hl
    match ds, hl with
    | [d0], _ => rfl
  · intro W base args ds p hval hA
    rw [Try.params6] at hA hval
    obtain ⟨v0, d0, rfl, rfl, h0⟩ := trodAll_one hA
    have k0 := hval 0 22 v0 rfl rfl
    obtain ⟨A0, c0, qs0, rfl, hc0, hq0, hl0⟩ := recs_open k0 h0
    have hm : (maxLen : Nat) = 9223372036854775807 := rfl
    exact SCall.below (ToneCounts_spec rfl (fun b o h => by simp at h) hc0 hq0 (by omega))
theorem toneCounts_said : Rows.ToneCountsSaid :=
  OpenClaim.holds_of_wide 6 Try.f6 rfl rfl rfl rfl rfl rfl rfl ⟨rfl, rfl, rfl, rfl, rfl⟩ rfl rfl rfl rfl rfl (by kernel_rfl) Try.func6 (by kernel_rfl)
    (of_decide_eq_true (by kernel_rfl)) (by unfold Func.isWrapper; first | (rw [if_pos (by decide +kernel)]; kernel_rfl) | (rw [if_neg (by decide +kernel)]; exact ⟨rfl, rfl⟩))
    (fun os started H enc _ => toneCounts_lifted os started H enc)
#print axioms toneCounts_said
end Go.Proofs.Ytkeefmneldflaaa
