/- SpriteDots: a stroke turns just the dots it names, tells whether one of them went out, and drawn twice gives the page back; no condition. -/
import Derived.Test.YtcakdalajafmoaaCE6
import Derived.Test.YtcakdalajafmoaaRows
import Derived.Test.YtcakdalajafmoaaCSxEnd
import Derived.Lib.SmallJoins
set_option linter.unusedVariables false
namespace Go.Proofs.Ytcakdalajafmoaa
open Go.ChangeShapes Go.WideShapes Go.ChangeAt Go.RowKit Go.SX Go.Joins Go.Deep

theorem own : ownKnob Try.prog.godebug = none := by kernel_rfl
theorem laidOut : laidOutB Try.prog = true := by kernel_rfl
theorem cells5 : Try.prog.cellsOf 5 = 1 := by kernel_rfl
theorem cells24 : Try.prog.cellsOf 24 = 3 := by kernel_rfl
theorem open_stroke {H : Type} {enc : TypeId × Value → H} {W : World} {base : Nat} {v : Value} {d : DataW H} {p : List MemPlace} (hv : Value.okWide Try.prog W .any base 24 v) (h : DataW.Trod enc Try.prog W 0 (fun _ => true) true 24 v d p) :
    ∃ (x y : Nat) (vr : Value) (rows : List Int), x < 256 ∧ y < 256 ∧ v = .agg #[.int .u8 (x : Int), .int .u8 (y : Int), vr] ∧ SlI .u8 (Cell ⟨Try.prog, W, []⟩ []) vr rows ∧ Byte rows ∧ rows.length ≤ maxLen := by
  obtain ⟨v0, v1, v2, y0, y1, y2, n, rfl, _, _, h0, h1, h2⟩ := open_agg3 Try.underlying24 (by kernel_rfl) cells24 hv h
  obtain ⟨x, hx, rfl⟩ := open_u8 Try.underlying5 h0
  obtain ⟨y, hy, rfl⟩ := open_u8 Try.underlying5 h1
  obtain ⟨rows, hr, hw, hl⟩ := open_slv Try.underlying22 Try.underlying5 cells5 h2
  exact ⟨x, y, v2, rows, hx, hy, rfl, hr, fun n hn => bounds_u8 (hw n hn), hl⟩

set_option maxRecDepth 100000 in
theorem spriteDots_lifted (os : Os) (started : os.Started) (H : Type) (enc : TypeId × Value → H) :
    ReturnsInHanded {} Try.checked os 3 .any (Rows.spriteDotsSpec.pre6 enc Try.prog Try.f3 Rows.spriteDotsRow.domain false) (Rows.spriteDotsSpec.post enc Try.prog Try.f3 false true false false) := by
  refine law_lifted (C := Try.checked) (tb := 4) own started (by kernel_rfl) Try.func3
    (ChangeSpec.witness6 (enc := enc) (C := Try.checked) false ⟨#[], #[.slice none 0 0, .agg #[.int .u8 0, .int .u8 0, .slice none 0 0]], []⟩ 8 (by kernel_rfl) (by kernel_rfl) (by kernel_rfl) (by kernel_rfl)) rfl laidOut (by kernel_rfl) rfl Try.underlying4 ?_ ?_
  · intro ds hl
    match ds, hl with
    | [d1, d2], _ => rfl
  · intro W base args ds p hval hA
    rw [Try.params3] at hA hval
    obtain ⟨v0, v1, d0, d1, p0, p1, rfl, rfl, _, h0, h1⟩ := trodAll_two hA
    obtain ⟨xs, hx, hw, hl⟩ := open_sl Try.underlying22 Try.underlying5 cells5 (hval 0 22 v0 rfl rfl) h0
    obtain ⟨xa, ya, vra, ra, hxa, hya, rfl, hra, hba, hla⟩ := open_stroke (hval 1 24 v1 rfl rfl) h1
    have hm : (maxLen : Nat) = 9223372036854775807 := rfl
    refine SCall.below ?_
    by_cases hbad : ¬ xs.length = 256 ∨ 15 < ra.length
    · exact SpriteDots_bad rfl hxa hya hx hra (fun n hn => bounds_u8 (hw n hn)) hba (by omega) (by omega) hbad
    · exact SpriteDots_good rfl hxa hya hx hra (fun n hn => bounds_u8 (hw n hn)) hba (by omega) (by omega) (by omega) (by omega)

/-- The statement. -/
theorem spriteDots_holds : Rows.SpriteDotsSaid :=
  OpenClaim.holds_of_wide 3 Try.f3 rfl rfl rfl rfl rfl rfl rfl ⟨rfl, rfl, rfl, rfl, rfl⟩ rfl rfl rfl rfl rfl (by kernel_rfl) Try.func3 (by kernel_rfl)
    (of_decide_eq_true (by kernel_rfl)) (by unfold Func.isWrapper; first | (rw [if_pos (by decide +kernel)]; kernel_rfl) | (rw [if_neg (by decide +kernel)]; exact ⟨rfl, rfl⟩))
    (fun os started H enc _ => spriteDots_lifted os started H enc)
#print axioms spriteDots_holds
end Go.Proofs.Ytcakdalajafmoaa
