/- A part of the proof of SpriteExactCardSaid. -/
import Derived.Test.YtcakdalajafmoaaDoorCV8
import Derived.Test.YtcakdalajafmoaaDoorRows
import Derived.Test.YtcakdalajafmoaaDoorCards
import Derived.Test.YtcakdalajafmoaaDoorTie
import Derived.Test.YtcakdalajafmoaaDoorCSxLaid
import Derived.SevenTiedAt
import Derived.Lib.SmallJoins
set_option linter.unusedVariables false
namespace Go.Proofs.YtcakdalajafmoaaDoor
open Go.ChangeShapes Go.WideShapes Go.ChangeAt Go.RowKit Go.SX

theorem own : ownKnob Tryd.prog.godebug = none := by kernel_rfl
theorem laidOut : laidOutB Tryd.prog = true := by kernel_rfl
theorem cells28 : Tryd.prog.cellsOf 28 = 3 := by kernel_rfl
theorem cells40 : Tryd.prog.cellsOf 40 = 80 := by kernel_rfl
theorem gPics : Tryd.prog.globalNamed "vesper/sprite.pictures" = some 0 := by kernel_rfl
theorem tPics : (Tryd.prog.globals[0]?).map (·.type) = some 40 := by kernel_rfl

def picRows : List (List Int) := (List.range 16).map fun n => (pics.drop (n * 5)).take 5
theorem picRows_at {j : Nat} {x : Int} (h : pics[j]? = some x) : ∃ zs, picRows[j / 5]? = some zs ∧ zs[j % 5]? = some x := by
  have hj : j < 80 := (List.getElem?_eq_some_iff.1 h).1
  refine ⟨(pics.drop (j / 5 * 5)).take 5, ?_, ?_⟩
  · rw [picRows, List.getElem?_map, List.getElem?_range (by omega)]; rfl
  · rw [List.getElem?_take, if_pos (by omega), List.getElem?_drop, show j / 5 * 5 + j % 5 = j by omega, h]
set_option maxRecDepth 100000 in
theorem of_laid {W : World} {laid : List (String × DataW Unit)} (hp : (laid.all fun x => x.2.handleName?.isNone) = true) (hL : laidMetH Tryd.prog laid W) (hm : ("vesper/sprite.pictures", Rows.laid_vesper_sprite_pictures) ∈ laid) : Laid ⟨Tryd.prog, W, []⟩ := by
  obtain ⟨cs, f, p, h1, h2⟩ := laid_var hp hL hm gPics tPics
  intro L j x hj
  obtain ⟨zs, h3, h4⟩ := picRows_at hj
  have := trod_arr_arr (zss := picRows) Tryd.underlying40 Tryd.underlying22 Tryd.underlying5 cells5 cells22 cells40 (by
    intro zs hz
    obtain ⟨n, hn, rfl⟩ := List.mem_map.1 hz
    have := List.mem_range.1 hn
    have hp : pics.length = 80 := rfl
    rw [List.length_take, List.length_drop]
    omega) h1 rfl _ _ _ _ h3 h4
  refine Cell.old (by simp) ?_
  rw [show j / 5 * 5 + j % 5 = j by omega] at this
  rw [h2]
  exact this
/-- A stroke's cells. -/
def CStk (W : World) (cs : List Value) (s : Stroke) : Prop := cs = [.int .u8 (s.x : Int), .int .u8 (s.y : Int), s.v] ∧ SlI .u8 (Cell ⟨Tryd.prog, W, []⟩ []) s.v s.rows ∧ s.x < 256 ∧ s.y < 256 ∧ Byte s.rows ∧ s.rows.length ≤ 9223372036854775807
theorem open_strokes {H : Type} {enc : TypeId × Value → H} {W : World} {base : Nat} {v : Value} {d : DataW H} {p : List MemPlace} (hv : Value.okWide Tryd.prog W .any base 26 v) (h : DataW.Trod enc Tryd.prog W 0 (fun _ => true) true 26 v d p) :
    ∃ l : List Stroke, Sl 3 RStk (Cell ⟨Tryd.prog, W, []⟩ []) v l ∧ l.length ≤ 9223372036854775807 := by
  obtain ⟨l, ⟨A, c, h1, h2, h3⟩, hl⟩ := open_slRT (R := CStk W) Tryd.underlying26 cells28 (fun n cs y hy => by
    obtain ⟨xs, m, _, _, hcs, hxs, hf⟩ := DataW.trod_struct Tryd.underlying28 hy
    rw [cells28] at hcs
    match cs, hcs with
    | [c0, c1, c2], _ =>
      have h0 := hf 0 _ rfl
      have h1 := hf 1 _ rfl
      have h2 := hf 2 _ rfl
      rw [List.getElem?_eq_getElem (by rw [hxs]; decide)] at h0 h1 h2
      obtain ⟨x, hx8, rfl⟩ := open_u8 (v := c0) Tryd.underlying5 h0
      obtain ⟨y, hy8, rfl⟩ := open_u8 (v := c1) Tryd.underlying5 h1
      obtain ⟨rows, hr, hw, hl⟩ := open_slv (v := c2) Tryd.underlying25 Tryd.underlying5 cells5 h2
      exact ⟨⟨x, y, c2, rows⟩, rfl, hr, hx8, hy8, fun n hn => bounds_u8 (hw n hn), hl⟩) hv h
  refine ⟨l, ⟨A, c, h1, h2, fun j x hj => ?_⟩, hl⟩
  obtain ⟨a, ha, cs, _, ⟨rfl, k1, k2, k3, k4, k5⟩, k⟩ := h3 j x hj
  refine ⟨a, ha, ?_, ?_, ?_, k1, k2, k3, k4, k5⟩
  · have := k 0 _ rfl
    simpa [Addr.add_zero'] using this
  · exact k 1 _ rfl
  · exact k 2 _ rfl
end Go.Proofs.YtcakdalajafmoaaDoor
