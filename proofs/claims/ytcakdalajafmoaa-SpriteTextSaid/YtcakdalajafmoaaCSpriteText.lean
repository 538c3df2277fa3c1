/- SpriteText: a page is read again from its text, a text that is read is the page's, nothing else is read; no condition. -/
import Derived.Test.YtcakdalajafmoaaCW4
import Derived.Test.YtcakdalajafmoaaRows
import Derived.Test.YtcakdalajafmoaaCSxEnd
set_option linter.unusedVariables false
namespace Go.Proofs.Ytcakdalajafmoaa
open Go.ChangeShapes Go.WideShapes Go.ChangeAt Go.RowKit Go.SX

theorem own : ownKnob Try.prog.godebug = none := by kernel_rfl
theorem laidOut : laidOutB Try.prog = true := by kernel_rfl
theorem cells5 : Try.prog.cellsOf 5 = 1 := by kernel_rfl

set_option maxRecDepth 100000 in
theorem spriteText_lifted (os : Os) (started : os.Started) (H : Type) (enc : TypeId × Value → H) :
    ReturnsInHanded {} Try.checked os 5 .any (Rows.spriteTextSpec.pre6 enc Try.prog Try.f5 Rows.spriteTextRow.domain false) (Rows.spriteTextSpec.post enc Try.prog Try.f5 false true false false) := by
  refine law_lifted (C := Try.checked) (tb := 4) own started (by kernel_rfl) Try.func5
    (ChangeSpec.witness6 (enc := enc) (C := Try.checked) false ⟨#[], #[.slice none 0 0, .string ByteArray.empty], []⟩ 8 (by kernel_rfl) (by kernel_rfl) (by kernel_rfl) (by kernel_rfl)) rfl laidOut (by kernel_rfl) rfl Try.underlying4 ?_ ?_
  · intro ds hl
    match ds, hl with
    | [d1, d2], _ => rfl
  · intro W base args ds p hval hA
    rw [Try.params5] at hA hval
    obtain ⟨v0, v1, d0, d1, p0, p1, rfl, rfl, rfl, h0, h1⟩ := trodAll_two hA
    obtain ⟨xs, hx, hw, hl⟩ := open_sl Try.underlying22 Try.underlying5 cells5 (hval 0 22 v0 rfl rfl) h0
    obtain ⟨s, rfl, hs⟩ := open_str Try.underlying9 (hval 1 9 v1 rfl rfl) h1
    have hm : (maxLen : Nat) = 9223372036854775807 := rfl
    exact SCall.below (SpriteText_spec rfl hx (fun n hn => bounds_u8 (hw n hn)) (by omega) (by omega))

/-- The statement. -/
theorem spriteText_holds : Rows.SpriteTextSaid :=
  OpenClaim.holds_of_wide 5 Try.f5 rfl rfl rfl rfl rfl rfl rfl ⟨rfl, rfl, rfl, rfl, rfl⟩ rfl rfl rfl rfl rfl (by kernel_rfl) Try.func5 (by kernel_rfl)
    (of_decide_eq_true (by kernel_rfl)) (by unfold Func.isWrapper; first | (rw [if_pos (by decide +kernel)]; kernel_rfl) | (rw [if_neg (by decide +kernel)]; exact ⟨rfl, rfl⟩))
    (fun os started H enc _ => spriteText_lifted os started H enc)
#print axioms spriteText_holds
end Go.Proofs.Ytcakdalajafmoaa
