/- PixieWindows: once over the screen EF1 is on in 112 cycles and INT in 28 if the chip is on, else in none; orders switch it; no condition. -/
import Derived.Test.YtnmidobpknghgaaDoorCW5
import Derived.Test.YtnmidobpknghgaaDoorCR
import Derived.Test.YtnmidobpknghgaaDoorRows
import Derived.Test.YtnmidobpknghgaaDoorCards
import Derived.Test.YtnmidobpknghgaaDoorTie
import Derived.SevenTiedAt
import Derived.Test.YtnmidobpknghgaaDoorCSxOpen
set_option linter.unusedVariables false
namespace Go.Proofs.YtnmidobpknghgaaDoor
open Go.ChangeShapes Go.WideShapes Go.ChangeAt Go.RowKit Go.SX
def pixieWindowsLaid : List (String × DataW Unit) := [("vesper/pixie.asks", Rows.laid_vesper_pixie_asks), ("vesper/pixie.flags", Rows.laid_vesper_pixie_flags), ("vesper/pixie.shown", Rows.laid_vesper_pixie_shown)]
set_option maxRecDepth 100000 in
theorem pixieWindows_met (os : Os) (args : Array Value) : laidMetH Tryd.prog pixieWindowsLaid ((World.doorLaid Tryd.prog 400 os).forCall (fun _ _ => 0) ⟨#[], args, []⟩).memory :=
  laidMetH_of_parts3 (fuel := 8) (laidMet_of_run' 8 (by kernel_rfl) (by kernel_rfl)) (by kernel_rfl) (by kernel_rfl)
set_option maxRecDepth 100000 in
theorem pixieWindows_lifted (os : Os) (started : os.Started) (H : Type) (enc : TypeId × Value → H) :
    ReturnsInHanded {} Tryd.checked os 3 .any (fun w args => (Rows.pixieWindowsSpec.pre enc Tryd.prog Tryd.f3 [] false w args ∧ laidMetH Tryd.prog pixieWindowsLaid w) ∧ sizedMet enc Tryd.prog Tryd.f3 (OpenSpec.ofChange Rows.pixieWindowsSpec) false w args)
      (Rows.pixieWindowsSpec.post enc Tryd.prog Tryd.f3 false true false false) := by
  refine law_lifted_laid (C := Tryd.checked) (tb := 4) (laid := pixieWindowsLaid) own started (by kernel_rfl) Tryd.func3
    (ChangeSpec.witness_shaped (enc := enc) (C := Tryd.checked) (os := os) (X := fun w _ => laidMetH Tryd.prog pixieWindowsLaid w) false (World.doorLaid Tryd.prog 400 os) #[.agg #[.int .i64 0, .int .i64 0, .bool false, .int .i64 0], .bool false, .int .i64 0] 8 rfl (World.shaped_of_RefB (by kernel_rfl) (by kernel_rfl)) (by kernel_rfl) (by kernel_rfl) (by kernel_rfl) (pixieWindows_met os _)) rfl laidOut (by kernel_rfl) rfl Tryd.underlying4 ?_ ?_
  · intro ds hl
    match ds, hl with
    | [d0, d1, d2], _ => rfl
  · intro W base args ds p hval hL hA
    rw [Tryd.params3] at hA hval
    obtain ⟨v0, v1, v2, d0, d1, d2, p0, p1, p2, rfl, rfl, rfl, h0, h1, h2⟩ := trodAll_three hA
    have k0 := hval 0 23 v0 rfl rfl
    obtain ⟨l, c, g, o, rfl, wl, wc, wg⟩ := open_ras k0 h0
    have k1 := hval 1 4 v1 rfl rfl
    obtain ⟨b, rfl⟩ := okWide_bool Tryd.underlying4 k1
    have k2 := hval 2 3 v2 rfl rfl
    obtain ⟨n, rfl⟩ := okWide_int Tryd.underlying3 k2
    have hm : (maxLen : Nat) = 9223372036854775807 := rfl
    exact SCall.below (PixieWindows_spec rfl (pairs_of (by kernel_rfl) hL (.tail _ (.tail _ (.head _))) gSh tSh Tryd.underlying44 cells44 rfl) (pairs_of (by kernel_rfl) hL (.head _) gAs tAs Tryd.underlying44 cells44 rfl) (pairs_of (by kernel_rfl) hL (.tail _ (.head _)) gFl tFl Tryd.underlying45 cells45 rfl))
theorem pixieWindows_said : Rows.PixieWindowsSaid :=
  OpenClaim.holds_of_wide 3 Tryd.f3 rfl rfl rfl rfl rfl rfl rfl ⟨rfl, rfl, rfl, rfl, rfl⟩ rfl rfl rfl rfl rfl (by kernel_rfl) Tryd.func3 (by kernel_rfl)
    (of_decide_eq_true (by kernel_rfl)) (by unfold Func.isWrapper; first | (rw [if_pos (by decide +kernel)]; kernel_rfl) | (rw [if_neg (by decide +kernel)]; exact ⟨rfl, rfl⟩))
    (fun os started H enc _ => pixieWindows_lifted os started H enc)
/-- The card. -/
theorem pixieWindows_holds : Rows.PixieWindowsCardSaid :=
  Claim7.holds_tied_plain_at .later [] [.widerDeep, .widerDeep, .widerDeep] true (true, "219e40bd246185e59efd8742dfcba5cd70159f69e746bee0342b8684d92e22d4") false
    pixieWindows_said (fun _ h => by cases h) (by kernel_rfl) (fun _ h => by cases h) pixieWindows_row_tie rfl ⟨rfl, rfl⟩ (by kernel_rfl) rfl
    (fun f fn hf hfn => by
      obtain rfl : f = 3 := Option.some.inj ((show Tryd.prog.funcNamed "vesper/vesperlaw05.PixieWindows" = some 3 by kernel_rfl).symm.trans hf) |>.symm
      obtain rfl : fn = Tryd.f3 := (Option.some.inj (Tryd.func3.symm.trans hfn)).symm
      exact ⟨by kernel_rfl, fun j t ht => by
        rw [Tryd.params3] at ht
        have hm : t ∈ [23, 4, 3] := by simpa using Array.mem_of_getElem? ht
        have hall : ([23, 4, 3].all fun u => !Tryd.prog.wantsStandIn u) = true := by kernel_rfl
        exact (show Tryd.prog.wantsStandIn t = false by simpa using List.all_eq_true.1 hall t hm)⟩)
    (by kernel_rfl)
#print axioms pixieWindows_holds
end Go.Proofs.YtnmidobpknghgaaDoor
