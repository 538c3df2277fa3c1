/- PixieExact: from any raster on, whatever the processor does: every question, and the raster behind each cycle, as the document says; no condition. -/
import Derived.Test.YtnmidobpknghgaaDoorCW9
import Derived.Test.YtnmidobpknghgaaDoorCR
import Derived.Test.YtnmidobpknghgaaDoorRows
import Derived.Test.YtnmidobpknghgaaDoorCards
import Derived.Test.YtnmidobpknghgaaDoorTie
import Derived.SevenTiedAt
import Derived.Test.YtnmidobpknghgaaDoorCSxOpen
set_option linter.unusedVariables false
namespace Go.Proofs.YtnmidobpknghgaaDoor
open Go.ChangeShapes Go.WideShapes Go.ChangeAt Go.RowKit Go.SX
def pixieExactLaid : List (String × DataW Unit) := [("vesper/pixie.asks", Rows.laid_vesper_pixie_asks), ("vesper/pixie.flags", Rows.laid_vesper_pixie_flags), ("vesper/pixie.shown", Rows.laid_vesper_pixie_shown)]
set_option maxRecDepth 100000 in
theorem pixieExact_met (os : Os) (args : Array Value) : laidMetH Tryd.prog pixieExactLaid ((World.doorLaid Tryd.prog 400 os).forCall (fun _ _ => 0) ⟨#[], args, []⟩).memory :=
  laidMetH_of_parts3 (fuel := 8) (laidMet_of_run' 8 (by kernel_rfl) (by kernel_rfl)) (by kernel_rfl) (by kernel_rfl)
set_option maxRecDepth 100000 in
theorem pixieExact_lifted (os : Os) (started : os.Started) (H : Type) (enc : TypeId × Value → H) :
    ReturnsInHanded {} Tryd.checked os 6 .any (fun w args => (Rows.pixieExactSpec.pre enc Tryd.prog Tryd.f6 [] false w args ∧ laidMetH Tryd.prog pixieExactLaid w) ∧ sizedMet enc Tryd.prog Tryd.f6 (OpenSpec.ofChange Rows.pixieExactSpec) false w args)
      (Rows.pixieExactSpec.post enc Tryd.prog Tryd.f6 false true false false) := by
  refine law_lifted_laid (C := Tryd.checked) (tb := 4) (laid := pixieExactLaid) own started (by kernel_rfl) Tryd.func6
    (ChangeSpec.witness_shaped (enc := enc) (C := Tryd.checked) (os := os) (X := fun w _ => laidMetH Tryd.prog pixieExactLaid w) false (World.doorLaid Tryd.prog 400 os) #[.agg #[.int .i64 0, .int .i64 0, .bool false, .int .i64 0], .slice none 0 0] 8 rfl (World.shaped_of_RefB (by kernel_rfl) (by kernel_rfl)) (by kernel_rfl) (by kernel_rfl) (by kernel_rfl) (pixieExact_met os _)) rfl laidOut (by kernel_rfl) rfl Tryd.underlying4 ?_ ?_
  · intro ds hl
    match ds, hl with
    | [d0, d1], _ => rfl
  · intro W base args ds p hval hL hA
    rw [Tryd.params6] at hA hval
    obtain ⟨v0, v1, d0, d1, p0, p1, rfl, rfl, _, h0, h1⟩ := trodAll_two hA
    have k0 := hval 0 23 v0 rfl rfl
    obtain ⟨l, c, g, o, rfl, wl, wc, wg⟩ := open_ras k0 h0
    have k1 := hval 1 36 v1 rfl rfl
    obtain ⟨xs, hsl, hks, hxl⟩ := open_sls Tryd.underlying36 (show flatK Tryd.prog 9 38 = some WK by kernel_rfl) (by kernel_rfl) k1 h1
    have hm : (maxLen : Nat) = 9223372036854775807 := rfl
    exact SCall.below (PixieExact_spec rfl (pairs_of (by kernel_rfl) hL (.tail _ (.tail _ (.head _))) gSh tSh Tryd.underlying44 cells44 rfl) (pairs_of (by kernel_rfl) hL (.head _) gAs tAs Tryd.underlying44 cells44 rfl) (pairs_of (by kernel_rfl) hL (.tail _ (.head _)) gFl tFl Tryd.underlying45 cells45 rfl) hsl hks (by omega))
theorem pixieExact_said : Rows.PixieExactSaid :=
  OpenClaim.holds_of_wide 6 Tryd.f6 rfl rfl rfl rfl rfl rfl rfl ⟨rfl, rfl, rfl, rfl, rfl⟩ rfl rfl rfl rfl rfl (by kernel_rfl) Tryd.func6 (by kernel_rfl)
    (of_decide_eq_true (by kernel_rfl)) (by unfold Func.isWrapper; first | (rw [if_pos (by decide +kernel)]; kernel_rfl) | (rw [if_neg (by decide +kernel)]; exact ⟨rfl, rfl⟩))
    (fun os started H enc _ => pixieExact_lifted os started H enc)
/-- The card. -/
theorem pixieExact_holds : Rows.PixieExactCardSaid :=
  Claim7.holds_tied_plain_at .later [] [.widerDeep, .widerDeep, .widerDeep] true (true, "219e40bd246185e59efd8742dfcba5cd70159f69e746bee0342b8684d92e22d4") false
    pixieExact_said (fun _ h => by cases h) (by kernel_rfl) (fun _ h => by cases h) pixieExact_row_tie rfl ⟨rfl, rfl⟩ (by kernel_rfl) rfl
    (fun f fn hf hfn => by
      obtain rfl : f = 6 := Option.some.inj ((show Tryd.prog.funcNamed "vesper/vesperlaw05.PixieExact" = some 6 by kernel_rfl).symm.trans hf) |>.symm
      obtain rfl : fn = Tryd.f6 := (Option.some.inj (Tryd.func6.symm.trans hfn)).symm
      exact ⟨by kernel_rfl, fun j t ht => by
        rw [Tryd.params6] at ht
        have hm : t ∈ [23, 36] := by simpa using Array.mem_of_getElem? ht
        have hall : ([23, 36].all fun u => !Tryd.prog.wantsStandIn u) = true := by kernel_rfl
        exact (show Tryd.prog.wantsStandIn t = false by simpa using List.all_eq_true.1 hall t hm)⟩)
    (by kernel_rfl)
#print axioms pixieExact_holds
end Go.Proofs.YtnmidobpknghgaaDoor
