/- GameTouches: an order that is done changes nothing but what its row names; where PC goes; no condition. -/
import Derived.Test.YtgioegdjeodpiaaCE
import Derived.Test.YtgioegdjeodpiaaRows
set_option linter.unusedVariables false
namespace Go.Proofs.Ytgioegdjeodpiaa
open Go.ChangeShapes Go.WideShapes Go.ChangeAt Go.RowKit Go.SX
set_option maxRecDepth 100000 in
theorem gameTouches_lifted (os : Os) (started : os.Started) (H : Type) (enc : TypeId × Value → H) :
    ReturnsInHanded {} Try.checked os 9 .any (Rows.gameTouchesSpec.pre6 enc Try.prog Try.f9 Rows.gameTouchesRow.domain false) (Rows.gameTouchesSpec.post enc Try.prog Try.f9 false true false false) := by
  refine law_lifted (C := Try.checked) (tb := 4) own started (by kernel_rfl) Try.func9
    (ChangeSpec.witness6 (enc := enc) (C := Try.checked) false ⟨#[], #[.agg #[.int .u8 0, .int .u8 0, .int .u8 0, .int .u8 0, .int .u8 0, .int .u8 0, .int .u8 0, .int .u8 0, .int .u8 0, .int .u8 0, .int .u8 0, .int .u8 0, .int .u8 0, .int .u8 0, .int .u8 0, .int .u8 0, .int .u16 0, .int .u16 0, .slice none 0 0, .int .u8 0, .int .u8 0, .slice none 0 0, .slice none 0 0], .agg #[.int .u16 0, .int .u16 0, .int .u16 0, .int .u16 0, .int .u16 0, .int .u16 0, .int .u16 0, .int .u16 0, .int .u16 0, .int .u16 0, .int .u16 0, .int .u16 0, .int .u16 0, .int .u16 0, .int .u16 0, .int .u16 0, .int .u16 0, .slice none 0 0], .agg #[.int .u8 0, .int .u16 0, .int .i64 0]], []⟩ 8 (by kernel_rfl) (by kernel_rfl) (by kernel_rfl) (by kernel_rfl)) rfl laidOut (by kernel_rfl) rfl Try.underlying4 ?_ ?_
  · intro ds hl
    match ds, hl with
    | [d0, d1, d2], _ => rfl
  · intro W base args ds p hval hA
    rw [Try.params9] at hA hval
    obtain ⟨v0, v1, v2, d0, d1, d2, p0, p1, p2, rfl, rfl, rfl, h0, h1, h2⟩ := trodAll_three hA
    have k0 := hval 0 29 v0 rfl rfl
    obtain ⟨g, sv, pv, mv, rfl, hg, hs, hp, hmv, ls, lp, lm⟩ := open_game k0 h0
    have k1 := hval 1 40 v1 rfl rfl
    obtain ⟨f, fv, rfl, hF, hf, lf⟩ := open_font k1 h1
    have k2 := hval 2 50 v2 rfl rfl
    obtain ⟨d, rfl, hd, kd⟩ := open_feed k2 h2
    have hm : (maxLen : Nat) = 9223372036854775807 := rfl
    exact SCall.below (GameTouches_spec rfl hd hg hF hs hp hmv hf)
theorem gameTouches_said : Rows.GameTouchesSaid :=
  OpenClaim.holds_of_wide 9 Try.f9 rfl rfl rfl rfl rfl rfl rfl ⟨rfl, rfl, rfl, rfl, rfl⟩ rfl rfl rfl rfl rfl (by kernel_rfl) Try.func9 (by kernel_rfl)
    (of_decide_eq_true (by kernel_rfl)) (by unfold Func.isWrapper; first | (rw [if_pos (by decide +kernel)]; kernel_rfl) | (rw [if_neg (by decide +kernel)]; exact ⟨rfl, rfl⟩))
    (fun os started H enc _ => gameTouches_lifted os started H enc)
#print axioms gameTouches_said
end Go.Proofs.Ytgioegdjeodpiaa
