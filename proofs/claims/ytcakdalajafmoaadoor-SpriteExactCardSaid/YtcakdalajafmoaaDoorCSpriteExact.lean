/- SpriteExact: strokes, digits and texts as the document says; what is handed in stays, what is told is nobody else's; no condition. -/
import Derived.Test.YtcakdalajafmoaaDoorCR
import Derived.Test.YtcakdalajafmoaaDoorRows
import Derived.Test.YtcakdalajafmoaaDoorCards
import Derived.Test.YtcakdalajafmoaaDoorTie
import Derived.SevenTiedAt
import Derived.Test.YtcakdalajafmoaaDoorCSxOpen
set_option linter.unusedVariables false
namespace Go.Proofs.YtcakdalajafmoaaDoor
open Go.ChangeShapes Go.WideShapes Go.ChangeAt Go.RowKit Go.SX
def spriteExactLaid : List (String × DataW Unit) := [("vesper/sprite.pictures", Rows.laid_vesper_sprite_pictures)]
set_option maxRecDepth 100000 in
theorem spriteExact_met (os : Os) (args : Array Value) : laidMetH Tryd.prog spriteExactLaid ((World.doorLaid Tryd.prog 400 os).forCall (fun _ _ => 0) ⟨#[], args, []⟩).memory :=
  laidMetH_of_parts3 (fuel := 8) (laidMet_of_run' 8 (by kernel_rfl) (by kernel_rfl)) (by kernel_rfl) (by kernel_rfl)
set_option maxRecDepth 100000 in
theorem spriteExact_lifted (os : Os) (started : os.Started) (H : Type) (enc : TypeId × Value → H) :
    ReturnsInHanded {} Tryd.checked os 4 .any (fun w args => (Rows.spriteExactSpec.pre enc Tryd.prog Tryd.f4 [] false w args ∧ laidMetH Tryd.prog spriteExactLaid w) ∧ sizedMet enc Tryd.prog Tryd.f4 (OpenSpec.ofChange Rows.spriteExactSpec) false w args)
      (Rows.spriteExactSpec.post enc Tryd.prog Tryd.f4 false true false false) := by
  refine law_lifted_laid (C := Tryd.checked) (tb := 4) (laid := spriteExactLaid) own started (by kernel_rfl) Tryd.func4
    (ChangeSpec.witness_shaped (enc := enc) (C := Tryd.checked) (os := os) (X := fun w _ => laidMetH Tryd.prog spriteExactLaid w) false (World.doorLaid Tryd.prog 400 os) #[.slice none 0 0, .slice none 0 0, .string ByteArray.empty] 8 rfl (World.shaped_of_RefB (by kernel_rfl) (by kernel_rfl)) (by kernel_rfl) (by kernel_rfl) (by kernel_rfl) (spriteExact_met os _)) rfl laidOut (by kernel_rfl) rfl Tryd.underlying4 ?_ ?_
  · intro ds hl
    match ds, hl with
    | [d0, d1, d2], _ => rfl
  · intro W base args ds p hval hL hA
    rw [Tryd.params4] at hA hval
    obtain ⟨v0, v1, v2, d0, d1, d2, p0, p1, p2, rfl, rfl, rfl, h0, h1, h2⟩ := trodAll_three hA
    have k0 := hval 0 25 v0 rfl rfl
    obtain ⟨xs, hx, hw, hl⟩ := open_sl Tryd.underlying25 Tryd.underlying5 cells5 k0 h0
    have k1 := hval 1 26 v1 rfl rfl
    obtain ⟨ls, hsl, hll⟩ := open_strokes k1 h1
    have k2 := hval 2 9 v2 rfl rfl
    obtain ⟨s, rfl, hs⟩ := open_str Tryd.underlying9 k2 h2
    have hm : (maxLen : Nat) = 9223372036854775807 := rfl
    exact SCall.below (SpriteExact_spec rfl (of_laid (by kernel_rfl) hL (.head _)) hx (fun n hn => bounds_u8 (hw n hn)) hsl (by omega) (by omega) (by omega))
theorem spriteExact_said : Rows.SpriteExactSaid :=
  OpenClaim.holds_of_wide 4 Tryd.f4 rfl rfl rfl rfl rfl rfl rfl ⟨rfl, rfl, rfl, rfl, rfl⟩ rfl rfl rfl rfl rfl (by kernel_rfl) Tryd.func4 (by kernel_rfl)
    (of_decide_eq_true (by kernel_rfl)) (by unfold Func.isWrapper; first | (rw [if_pos (by decide +kernel)]; kernel_rfl) | (rw [if_neg (by decide +kernel)]; exact ⟨rfl, rfl⟩))
    (fun os started H enc _ => spriteExact_lifted os started H enc)
/-- The card. -/
theorem spriteExact_holds : Rows.SpriteExactCardSaid :=
  Claim7.holds_tied_plain_at .later [] [.data] true (true, "c6c55acdbdf268fc88b854490ac52c232cbcad5ca065d884a938844de075df10") false
    spriteExact_said (fun _ h => by cases h) (by kernel_rfl) (fun _ h => by cases h) spriteExact_row_tie rfl ⟨rfl, rfl⟩ (by kernel_rfl) rfl
    (fun f fn hf hfn => by
      obtain rfl : f = 4 := Option.some.inj ((show Tryd.prog.funcNamed "vesper/vesperlaw17.SpriteExact" = some 4 by kernel_rfl).symm.trans hf) |>.symm
      obtain rfl : fn = Tryd.f4 := (Option.some.inj (Tryd.func4.symm.trans hfn)).symm
      exact ⟨by kernel_rfl, fun j t ht => by
        rw [Tryd.params4] at ht
        have hm : t ∈ [25, 26, 9] := by simpa using Array.mem_of_getElem? ht
        have hall : ([25, 26, 9].all fun u => !Tryd.prog.wantsStandIn u) = true := by kernel_rfl
        exact (show Tryd.prog.wantsStandIn t = false by simpa using List.all_eq_true.1 hall t hm)⟩)
    (by kernel_rfl)
#print axioms spriteExact_holds
end Go.Proofs.YtcakdalajafmoaaDoor
