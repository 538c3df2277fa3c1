/- ToneSame: two traces have the same levels just if Q is the same in them, record by record; no condition. -/
import Derived.Test.YtkeefmneldflaaaCW7
import Derived.Test.YtkeefmneldflaaaCR
import Derived.Test.YtkeefmneldflaaaRows
import Derived.Test.YtkeefmneldflaaaCSxOpen
set_option linter.unusedVariables false
namespace Go.Proofs.Ytkeefmneldflaaa
open Go.ChangeShapes Go.WideShapes Go.ChangeAt Go.RowKit Go.SX
set_option maxRecDepth 100000 in
theorem toneSame_lifted (os : Os) (started : os.Started) (H : Type) (enc : TypeId × Value → H) :
    ReturnsInHanded {} Try.checked os 7 .any (Rows.toneSameSpec.pre6 enc Try.prog Try.f7 Rows.toneSameRow.domain false) (Rows.toneSameSpec.post enc Try.prog Try.f7 false true false false) := by
  refine law_lifted (C := Try.checked) (tb := 4) own started (by kernel_rfl) Try.func7
    (ChangeSpec.witness6 (enc := enc) (C := Try.checked) false ⟨#[], #[.slice none 0 0, .slice none 0 0], []⟩ 8 (by kernel_rfl) (by kernel_rfl) (by kernel_rfl) (by kernel_rfl)) rfl laidOut (by kernel_rfl) rfl Try.underlying4 ?_ ?_
  · intro ds hl
    match ds, hl with
    | [d0, d1], _ => rfl
  · intro W base args ds p hval hA
    rw [Try.params7] at hA hval
    obtain ⟨v0, v1, d0, d1, p0, p1, rfl, rfl, _, h0, h1⟩ := trodAll_two hA
    have k0 := hval 0 22 v0 rfl rfl
    obtain ⟨A0, c0, qs0, rfl, hc0, hq0, hl0⟩ := recs_open k0 h0
    have k1 := hval 1 22 v1 rfl rfl
    obtain ⟨A1, c1, qs1, rfl, hc1, hq1, hl1⟩ := recs_open k1 h1
    have hm : (maxLen : Nat) = 9223372036854775807 := rfl
    exact SCall.below (ToneSame_spec rfl (fun b o h => by simp at h) hc0 hq0 hc1 hq1 (by omega) (by omega))
theorem toneSame_said : Rows.ToneSameSaid :=
  OpenClaim.holds_of_wide 7 Try.f7 rfl rfl rfl rfl rfl rfl rfl ⟨rfl, rfl, rfl, rfl, rfl⟩ rfl rfl rfl rfl rfl (by kernel_rfl) Try.func7 (by kernel_rfl)
    (of_decide_eq_true (by kernel_rfl)) (by unfold Func.isWrapper; first | (rw [if_pos (by decide +kernel)]; kernel_rfl) | (rw [if_neg (by decide +kernel)]; exact ⟨rfl, rfl⟩))
    (fun os started H enc _ => toneSame_lifted os started H enc)
#print axioms toneSame_said
end Go.Proofs.Ytkeefmneldflaaa
