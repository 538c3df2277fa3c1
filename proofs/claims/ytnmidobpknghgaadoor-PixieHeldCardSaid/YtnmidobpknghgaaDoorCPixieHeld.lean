/- PixieHeld: in a shown line just eight bytes are asked for and taken side by side, however late the processor answers (one to three cycles); no condition. -/
import Derived.Test.YtnmidobpknghgaaDoorCW6
import Derived.Test.YtnmidobpknghgaaDoorCR
import Derived.Test.YtnmidobpknghgaaDoorRows
import Derived.Test.YtnmidobpknghgaaDoorCards
import Derived.Test.YtnmidobpknghgaaDoorTie
import Derived.SevenTiedAt
import Derived.Test.YtnmidobpknghgaaDoorCSxOpen
set_option linter.unusedVariables false
namespace Go.Proofs.YtnmidobpknghgaaDoor
open Go.ChangeShapes Go.WideShapes Go.ChangeAt Go.RowKit Go.SX
def pixieHeldLaid : List (String × DataW Unit) := [("vesper/pixie.shown", Rows.laid_vesper_pixie_shown)]
set_option maxRecDepth 100000 in
theorem pixieHeld_met (os : Os) (args : Array Value) : laidMetH Tryd.prog pixieHeldLaid ((World.doorLaid Tryd.prog 400 os).forCall (fun _ _ => 0) ⟨#[], args, []⟩).memory :=
  laidMetH_of_parts3 (fuel := 8) (laidMet_of_run' 8 (by kernel_rfl) (by kernel_rfl)) (by kernel_rfl) (by kernel_rfl)
set_option maxRecDepth 100000 in
theorem pixieHeld_lifted (os : Os) (started : os.Started) (H : Type) (enc : TypeId × Value → H) :
    ReturnsInHanded {} Tryd.checked os 4 .any (fun w args => (Rows.pixieHeldSpec.pre enc Tryd.prog Tryd.f4 [] false w args ∧ laidMetH Tryd.prog pixieHeldLaid w) ∧ sizedMet enc Tryd.prog Tryd.f4 (OpenSpec.ofChange Rows.pixieHeldSpec) false w args)
      (Rows.pixieHeldSpec.post enc Tryd.prog Tryd.f4 false true false false) := by
  refine law_lifted_laid (C := Tryd.checked) (tb := 4) (laid := pixieHeldLaid) own started (by kernel_rfl) Tryd.func4
    (ChangeSpec.witness_shaped (enc := enc) (C := Tryd.checked) (os := os) (X := fun w _ => laidMetH Tryd.prog pixieHeldLaid w) false (World.doorLaid Tryd.prog 400 os) #[.int .i64 0, .int .i64 0] 8 rfl (World.shaped_of_RefB (by kernel_rfl) (by kernel_rfl)) (by kernel_rfl) (by kernel_rfl) (by kernel_rfl) (pixieHeld_met os _)) rfl laidOut (by kernel_rfl) rfl Tryd.underlying4 ?_ ?_
  · intro ds hl
    match ds, hl with
    | [d0, d1], _ => rfl
  · intro W base args ds p hval hL hA
    rw [Tryd.params4] at hA hval
    obtain ⟨v0, v1, d0, d1, p0, p1, rfl, rfl, _, h0, h1⟩ := trodAll_two hA
    have k0 := hval 0 3 v0 rfl rfl
    obtain ⟨n0, rfl⟩ := okWide_int Tryd.underlying3 k0
    have k1 := hval 1 3 v1 rfl rfl
    obtain ⟨n1, rfl⟩ := okWide_int Tryd.underlying3 k1
    have hm : (maxLen : Nat) = 9223372036854775807 := rfl
    exact SCall.below (PixieHeld_spec rfl (pairs_of (by kernel_rfl) hL (.head _) gSh tSh Tryd.underlying44 cells44 rfl))
theorem pixieHeld_said : Rows.PixieHeldSaid :=
  OpenClaim.holds_of_wide 4 Tryd.f4 rfl rfl rfl rfl rfl rfl rfl ⟨rfl, rfl, rfl, rfl, rfl⟩ rfl rfl rfl rfl rfl (by kernel_rfl) Tryd.func4 (by kernel_rfl)
    (of_decide_eq_true (by kernel_rfl)) (by unfold Func.isWrapper; first | (rw [if_pos (by decide +kernel)]; kernel_rfl) | (rw [if_neg (by decide +kernel)]; exact ⟨rfl, rfl⟩))
    (fun os started H enc _ => pixieHeld_lifted os started H enc)
/-- The card. -/
theorem pixieHeld_holds : Rows.PixieHeldCardSaid :=
  Claim7.holds_tied_plain_at .later [] [.widerDeep] true (true, "219e40bd246185e59efd8742dfcba5cd70159f69e746bee0342b8684d92e22d4") false
    pixieHeld_said (fun _ h => by cases h) (by kernel_rfl) (fun _ h => by cases h) pixieHeld_row_tie rfl ⟨rfl, rfl⟩ (by kernel_rfl) rfl
    (fun f fn hf hfn => by
      obtain rfl : f = 4 := Option.some.inj ((show Tryd.prog.funcNamed "vesper/vesperlaw05.PixieHeld" = some 4 by kernel_rfl).symm.trans hf) |>.symm
      obtain rfl : fn = Tryd.f4 := (Option.some.inj (Tryd.func4.symm.trans hfn)).symm
      exact ⟨by kernel_rfl, fun j t ht => by
        rw [Tryd.params4] at ht
        have hm : t ∈ [3, 3] := by simpa using Array.mem_of_getElem? ht
        have hall : ([3, 3].all fun u => !Tryd.prog.wantsStandIn u) = true := by kernel_rfl
        exact (show Tryd.prog.wantsStandIn t = false by simpa using List.all_eq_true.1 hall t hm)⟩)
    (by kernel_rfl)
#print axioms pixieHeld_holds
end Go.Proofs.YtnmidobpknghgaaDoor
