/- SpriteDigits: the sixteen pictures are unlike, none has a dot on behind the fourth column, others are noughts; the table of pictures is the one that the program's text gives. -/
import Derived.Test.YtcakdalajafmoaaDoorCW1
import Derived.Test.YtcakdalajafmoaaDoorRows
import Derived.Test.YtcakdalajafmoaaDoorCards
import Derived.Test.YtcakdalajafmoaaDoorTie
import Derived.Test.YtcakdalajafmoaaDoorCSxLaid
import Derived.SevenTiedAt
set_option linter.unusedVariables false
namespace Go.Proofs.YtcakdalajafmoaaDoor
open Go.ChangeShapes Go.WideShapes Go.ChangeAt Go.RowKit Go.SX

theorem own : ownKnob Tryd.prog.godebug = none := by kernel_rfl
theorem laidOut : laidOutB Tryd.prog = true := by kernel_rfl
theorem cells40 : Tryd.prog.cellsOf 40 = 80 := by kernel_rfl
theorem gPics : Tryd.prog.globalNamed "vesper/sprite.pictures" = some 0 := by kernel_rfl
theorem tPics : (Tryd.prog.globals[0]?).map (·.type) = some 40 := by kernel_rfl

def laid : List (String × DataW Unit) := [("vesper/sprite.pictures", Rows.laid_vesper_sprite_pictures)]
set_option maxRecDepth 100000 in
theorem door_met (os : Os) (args : Array Value) : laidMetH Tryd.prog laid ((World.doorLaid Tryd.prog 400 os).forCall (fun _ _ => 0) ⟨#[], args, []⟩).memory :=
  laidMetH_of_parts3 (fuel := 8) (laidMet_of_run' 8 (by kernel_rfl) (by kernel_rfl)) (by kernel_rfl) (by kernel_rfl)

def picRows : List (List Int) := (List.range 16).map fun n => (pics.drop (n * 5)).take 5
theorem picRows_at {j : Nat} {x : Int} (h : pics[j]? = some x) : ∃ zs, picRows[j / 5]? = some zs ∧ zs[j % 5]? = some x := by
  have hj : j < 80 := (List.getElem?_eq_some_iff.1 h).1
  refine ⟨(pics.drop (j / 5 * 5)).take 5, ?_, ?_⟩
  · rw [picRows, List.getElem?_map, List.getElem?_range (by omega)]; rfl
  · rw [List.getElem?_take, if_pos (by omega), List.getElem?_drop, show j / 5 * 5 + j % 5 = j by omega, h]
set_option maxRecDepth 100000 in
theorem of_laid {W : World} (h : laidMetH Tryd.prog laid W) : Laid ⟨Tryd.prog, W, []⟩ := by
  rw [MakeChecks.laidMetH_plain _ _ _ (by kernel_rfl)] at h
  obtain ⟨ps, ⟨g0, t0, cs0, f0, p0, q0, hg0, ht0, hv0, hd0, _, _⟩, _, _⟩ := h
  obtain rfl := Option.some.inj (gPics.symm.trans hg0)
  obtain rfl := Option.some.inj (tPics.symm.trans ht0)
  intro L j x hj
  obtain ⟨zs, h1, h2⟩ := picRows_at hj
  have := trod_arr_arr (zss := picRows) Tryd.underlying40 Tryd.underlying22 Tryd.underlying5 cells5 cells22 cells40 (by
    intro zs hz
    obtain ⟨n, hn, rfl⟩ := List.mem_map.1 hz
    have := List.mem_range.1 hn
    have hp : pics.length = 80 := rfl
    rw [List.length_take, List.length_drop]
    omega) hd0 rfl _ _ _ _ h1 h2
  refine Cell.old (by simp) ?_
  rw [show j / 5 * 5 + j % 5 = j by omega] at this
  have h3 := World.var?_cell hg0 hv0 j
  rw [h3, ← Array.getElem?_toList]
  exact this

set_option maxRecDepth 100000 in
theorem spriteDigits_lifted (os : Os) (started : os.Started) (H : Type) (enc : TypeId × Value → H) :
    ReturnsInHanded {} Tryd.checked os 3 .any (fun w args => (Rows.spriteDigitsSpec.pre enc Tryd.prog Tryd.f3 [] false w args ∧ laidMetH Tryd.prog laid w) ∧ sizedMet enc Tryd.prog Tryd.f3 (OpenSpec.ofChange Rows.spriteDigitsSpec) false w args)
      (Rows.spriteDigitsSpec.post enc Tryd.prog Tryd.f3 false true false false) := by
  refine law_lifted_laid (C := Tryd.checked) (tb := 4) (laid := laid) own started (by kernel_rfl) Tryd.func3
    (ChangeSpec.witness_shaped (enc := enc) (C := Tryd.checked) (os := os) (X := fun w _ => laidMetH Tryd.prog laid w) false (World.doorLaid Tryd.prog 400 os) #[] 8 rfl (World.shaped_of_RefB (by kernel_rfl) (by kernel_rfl)) (by kernel_rfl) (by kernel_rfl) (by kernel_rfl) (door_met os _)) rfl laidOut (by kernel_rfl) rfl Tryd.underlying4 ?_ ?_
  · intro ds hl
    match ds, hl with
    | [], _ => rfl
  · intro W base args ds p hval hL hA
    rw [Tryd.params3] at hA
    obtain ⟨rfl, rfl, rfl⟩ := trodAll_none hA
    exact SCall.below (SpriteDigits_spec rfl (of_laid hL))

theorem spriteDigits_said : Rows.SpriteDigitsSaid :=
  OpenClaim.holds_of_wide 3 Tryd.f3 rfl rfl rfl rfl rfl rfl rfl ⟨rfl, rfl, rfl, rfl, rfl⟩ rfl rfl rfl rfl rfl (by kernel_rfl) Tryd.func3 (by kernel_rfl)
    (of_decide_eq_true (by kernel_rfl)) (by unfold Func.isWrapper; first | (rw [if_pos (by decide +kernel)]; kernel_rfl) | (rw [if_neg (by decide +kernel)]; exact ⟨rfl, rfl⟩))
    (fun os started H enc _ => spriteDigits_lifted os started H enc)

/-- The card. -/
theorem spriteDigits_holds : Rows.SpriteDigitsCardSaid :=
  Claim7.holds_tied_plain_at .later [] [.data] true (true, "c6c55acdbdf268fc88b854490ac52c232cbcad5ca065d884a938844de075df10") false
    spriteDigits_said (fun _ h => by cases h) (by kernel_rfl) (fun _ h => by cases h) spriteDigits_row_tie rfl ⟨rfl, rfl⟩ (by kernel_rfl) rfl
    (fun f fn hf hfn => by
      obtain rfl : f = 3 := Option.some.inj ((show Tryd.prog.funcNamed "vesper/vesperlaw17.SpriteDigits" = some 3 by kernel_rfl).symm.trans hf) |>.symm
      obtain rfl : fn = Tryd.f3 := (Option.some.inj (Tryd.func3.symm.trans hfn)).symm
      exact ⟨by kernel_rfl, fun j t ht => by
        rw [Tryd.params3] at ht
        simp at ht⟩)
    (by kernel_rfl)
#print axioms spriteDigits_holds
end Go.Proofs.YtcakdalajafmoaaDoor
