/- GameMay: what a step and a tick make of a game that may be may be again; what is not Done changes nothing; no condition. -/
import Derived.Test.YtgioegdjeodpiaaCE
import Derived.Test.YtgioegdjeodpiaaRows
set_option linter.unusedVariables false
namespace Go.Proofs.Ytgioegdjeodpiaa
open Go.ChangeShapes Go.WideShapes Go.ChangeAt Go.RowKit Go.SX
set_option maxRecDepth 100000 in
theorem gameMay_lifted (os : Os) (started : os.Started) (H : Type) (enc : TypeId × Value → H) :
    ReturnsInHanded {} Try.checked os 10 .any (Rows.gameMaySpec.pre6 enc Try.prog Try.f10 Rows.gameMayRow.domain false) (Rows.gameMaySpec.post enc Try.prog Try.f10 false true false false) := by
  refine law_lifted (C := Try.checked) (tb := 4) own started (by kernel_rfl) Try.func10
    (ChangeSpec.witness6 (enc := enc) (C := Try.checked) false ⟨#[], #[.agg #[.int .u8 0, .int .u8 0, .int .u8 0, .int .u8 0, .int .u8 0, .int .u8 0, .int .u8 0, .int .u8 0, .int .u8 0, .int .u8 0, .int .u8 0, .int .u8 0, .int .u8 0, .int .u8 0, .int .u8 0, .int .u8 0, .int .u16 0, .int .u16 0, .slice none 0 0, .int .u8 0, .int .u8 0, .slice none 0 0, .slice none 0 0], .agg #[.int .u16 0, .int .u16 0, .int .u16 0, .int .u16 0, .int .u16 0, .int .u16 0, .int .u16 0, .int .u16 0, .int .u16 0, .int .u16 0, .int .u16 0, .int .u16 0, .int .u16 0, .int .u16 0, .int .u16 0, .int .u16 0, .int .u16 0, .slice none 0 0], .agg #[.int .u8 0, .int .u16 0, .int .i64 0]], []⟩ 8 (by kernel_rfl) (by kernel_rfl) (by kernel_rfl) (by kernel_rfl)) rfl laidOut (by kernel_rfl) rfl Try.underlying4 ?_ ?_
  · intro ds hl
    match ds, hl with
    | [d0, d1, d2], _ => rfl
  · intro W base args ds p hval hA
    rw [Try.params10] at hA hval
    obtain ⟨v0, v1, v2, d0, d1, d2, p0, p1, p2, rfl, rfl, rfl, h0, h1, h2⟩ := trodAll_three hA
    have k0 := hval 0 29 v0 rfl rfl
    obtain ⟨g, sv, pv, mv, rfl, hg, hs, hp, hmv, ls, lp, lm⟩ := open_game k0 h0
    have k1 := hval 1 40 v1 rfl rfl
    obtain ⟨f, fv, rfl, hF, hf, lf⟩ := open_font k1 h1
    have k2 := hval 2 50 v2 rfl rfl
    obtain ⟨d, rfl, hd, kd⟩ := open_feed k2 h2
    have hm : (maxLen : Nat) = 9223372036854775807 := rfl
    exact SCall.below (GameMay_spec rfl hd hg hF hs hp hmv hf)
theorem gameMay_said : Rows.GameMaySaid :=
  OpenClaim.holds_of_wide 10 Try.f10 rfl rfl rfl rfl rfl rfl rfl ⟨rfl, rfl, rfl, rfl, rfl⟩ rfl rfl rfl rfl rfl (by kernel_rfl) Try.func10 (by kernel_rfl)
    (of_decide_eq_true (by kernel_rfl)) (by unfold Func.isWrapper; first | (rw [if_pos (by decide +kernel)]; kernel_rfl) | (rw [if_neg (by decide +kernel)]; exact ⟨rfl, rfl⟩))
    (fun os started H enc _ => gameMay_lifted os started H enc)
#print axioms gameMay_said
end Go.Proofs.Ytgioegdjeodpiaa
