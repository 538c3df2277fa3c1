/- GamePlays: a play, step for step and tick for tick, is as the document says; copies are the caller's own; no condition. -/
import Derived.Test.YtgioegdjeodpiaaGreatCF
import Derived.Test.YtgioegdjeodpiaaGreatRows
set_option linter.unusedVariables false
set_option linter.unusedSimpArgs false
namespace Go.Proofs.YtgioegdjeodpiaaGreat
open Go.ChangeShapes Go.WideShapes Go.ChangeAt Go.RowKit Go.SX
set_option maxRecDepth 100000 in
theorem gamePlays_lifted (os : Os) (started : os.Started) (H : Type) (enc : TypeId × Value → H) :
  ReturnsInHanded {} Tryz.checked os 3 .any (Rows.gamePlaysSpec.pre6 enc Tryz.prog Tryz.f3 Rows.gamePlaysRow.domain false) (Rows.gamePlaysSpec.post enc Tryz.prog Tryz.f3 false true false false) := by
 refine law_lifted (C := Tryz.checked) (tb := 4) own started (by kernel_rfl) Tryz.func3
  (ChangeSpec.witness6 (enc := enc) (C := Tryz.checked) false ⟨#[],#[.agg #[.int .u8 0,.int .u8 0,.int .u8 0,.int .u8 0,.int .u8 0,.int .u8 0,.int .u8 0,.int .u8 0,.int .u8 0,.int .u8 0,.int .u8 0,.int .u8 0,.int .u8 0,.int .u8 0,.int .u8 0,.int .u8 0,.int .u16 0,.int .u16 0,.slice none 0 0,.int .u8 0,.int .u8 0,.slice none 0 0,.slice none 0 0],.agg #[.int .u16 0,.int .u16 0,.int .u16 0,.int .u16 0,.int .u16 0,.int .u16 0,.int .u16 0,.int .u16 0,.int .u16 0,.int .u16 0,.int .u16 0,.int .u16 0,.int .u16 0,.int .u16 0,.int .u16 0,.int .u16 0,.int .u16 0,.slice none 0 0],.slice none 0 0],[]⟩ 8 (by kernel_rfl) (by kernel_rfl) (by kernel_rfl) (by kernel_rfl)) rfl laidOut (by kernel_rfl) rfl Tryz.underlying4 ?_ ?_
 ·intro ds hl
  match ds,hl with
  | [d0,d1,d2],_=>rfl
 intro W base args ds p hval hA
 rw [Tryz.params3] at hA hval
 obtain ⟨v0,v1,v2,d0,d1,d2,p0,p1,p2,rfl,rfl,rfl,h0,h1,h2⟩ := trodAll_three hA
 have k0 := hval 0 27 v0 rfl rfl
 obtain ⟨g,sv,pv,mv,rfl,hg,hs,hp,hmv,ls,lp,lm⟩ := open_game k0 h0
 have k1 := hval 1 30 v1 rfl rfl
 obtain ⟨f,fv,rfl,hF,hf,lf⟩ := open_font k1 h1
 have k2 := hval 2 31 v2 rfl rfl
 obtain ⟨ps,hl,hps,lps⟩ := open_plays k2 h2
 have hm : (maxLen : Nat) = 9223372036854775807 := rfl
 exact SCall.below (GamePlays_spec rfl hg hF hs hp hmv hf hl hps lps)
theorem gamePlays_said : Rows.GamePlaysSaid :=
 OpenClaim.holds_of_wide 3 Tryz.f3 rfl rfl rfl rfl rfl rfl rfl ⟨rfl,rfl,rfl,rfl,rfl⟩ rfl rfl rfl rfl rfl (by kernel_rfl) Tryz.func3 (by kernel_rfl)
  (of_decide_eq_true (by kernel_rfl)) (by unfold Func.isWrapper; first | (rw [if_pos (by decide +kernel)]; kernel_rfl) | (rw [if_neg (by decide +kernel)]; exact ⟨rfl,rfl⟩))
  (fun os started H enc _=>gamePlays_lifted os started H enc)
#print axioms gamePlays_said
end Go.Proofs.YtgioegdjeodpiaaGreat
