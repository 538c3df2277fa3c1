/-
  NARROWER THAN 'FOR EVERY INPUT', by the rows' own cells (each row's printed sentence says how): SpriteDigits: laid · SpriteExact: laid.
  DERIVED. THE GIVEN ROWS OF THIS SEAT. 2 by the template 'for every input the law returns true; each argument reads behind the call as it read before'; 0 by the template 'total and deterministic' (their statements: YtcakdalajafmoaaDoorTotals.lean).
  GIVEN WITH THE SEED: the statements are not yours to turn. If you find one false, say at which input.
  Laid BY PROGRAM, IN A SANDBOX (cutbox-rows.mjs): the forced cells as the released guide's own fill.sh prints them over the translation 529b53e637a04fc2… (all of the seat's roots in one cut). By AI agents, Wed Nov 11 2026. No macro, syntax, notation, axiom, sorry.
-/
import Derived.Test.YtcakdalajafmoaaDoorChecked
import GoSem.Claim
import GoSem.ClaimJoined
import GoSem.ClaimMapViews
import Derived.JoinedTies
import Derived.KernelRfl
namespace Go.Proofs.YtcakdalajafmoaaDoor
/- THE CELL 'sum', in the pinned program and in every row, IS THE sha256 OF THE DUMP (.gsa) THAT YtcakdalajafmoaaDoorProg.lean LOADS. Nothing in Lean hashes anything: it is a label: what it is worth is what the hold of that sum in a sandbox is worth. -/
noncomputable def Tryd.pinned : Pinned := { name := "ytcakdalajafmoaadoor", sum := "529b53e637a04fc2b202c0912804871f2844647deea0266d177a3a7e64be8da8", checked := Tryd.checked }
namespace Rows
def none {H : Type} : Left H := { results := [], args := [] }

/- WHAT THE LISTED PACKAGE-LEVEL VARIABLES READ AS WHEN THE CALL BEGINS. Each datum BY PROGRAM (the guide's laid-datum.mjs) off the statement by which the dump's own 'gosem.cut.vars' lays the variable. In a bare row this is a premise. The card (YtcakdalajafmoaaDoorCards.lean) ties it to the program's text. -/
def laid_vesper_sprite_pictures {H : Type} : DataW H := .agg [.agg [.lit (.int .u8 240), .lit (.int .u8 144), .lit (.int .u8 144), .lit (.int .u8 144), .lit (.int .u8 240)], .agg [.lit (.int .u8 32), .lit (.int .u8 96), .lit (.int .u8 32), .lit (.int .u8 32), .lit (.int .u8 112)], .agg [.lit (.int .u8 240), .lit (.int .u8 16), .lit (.int .u8 240), .lit (.int .u8 128), .lit (.int .u8 240)], .agg [.lit (.int .u8 240), .lit (.int .u8 16), .lit (.int .u8 240), .lit (.int .u8 16), .lit (.int .u8 240)], .agg [.lit (.int .u8 144), .lit (.int .u8 144), .lit (.int .u8 240), .lit (.int .u8 16), .lit (.int .u8 16)], .agg [.lit (.int .u8 240), .lit (.int .u8 128), .lit (.int .u8 240), .lit (.int .u8 16), .lit (.int .u8 240)], .agg [.lit (.int .u8 240), .lit (.int .u8 128), .lit (.int .u8 240), .lit (.int .u8 144), .lit (.int .u8 240)], .agg [.lit (.int .u8 240), .lit (.int .u8 16), .lit (.int .u8 16), .lit (.int .u8 16), .lit (.int .u8 16)], .agg [.lit (.int .u8 240), .lit (.int .u8 144), .lit (.int .u8 240), .lit (.int .u8 144), .lit (.int .u8 240)], .agg [.lit (.int .u8 240), .lit (.int .u8 144), .lit (.int .u8 240), .lit (.int .u8 16), .lit (.int .u8 240)], .agg [.lit (.int .u8 240), .lit (.int .u8 144), .lit (.int .u8 240), .lit (.int .u8 144), .lit (.int .u8 144)], .agg [.lit (.int .u8 224), .lit (.int .u8 144), .lit (.int .u8 224), .lit (.int .u8 144), .lit (.int .u8 224)], .agg [.lit (.int .u8 240), .lit (.int .u8 128), .lit (.int .u8 128), .lit (.int .u8 128), .lit (.int .u8 240)], .agg [.lit (.int .u8 224), .lit (.int .u8 144), .lit (.int .u8 144), .lit (.int .u8 144), .lit (.int .u8 224)], .agg [.lit (.int .u8 240), .lit (.int .u8 128), .lit (.int .u8 240), .lit (.int .u8 128), .lit (.int .u8 240)], .agg [.lit (.int .u8 240), .lit (.int .u8 128), .lit (.int .u8 240), .lit (.int .u8 128), .lit (.int .u8 128)]]

/-- 'vesperlaw17.SpriteDigits': WHATEVER THE INPUT: true; the input reads as it did. -/
def spriteDigitsSpec : ChangeSpec := { name := "spriteDigits", fn := fun _ => fun
  | [] => { results := [.lit (.bool true)], args := [] }
  | _ => none }
def spriteDigitsRow : OpenClaim := { program := "ytcakdalajafmoaadoor", sum := "529b53e637a04fc2b202c0912804871f2844647deea0266d177a3a7e64be8da8", func := "vesper/vesperlaw17.SpriteDigits", spec := "spriteDigits", named := ["vesper/sprite.pictures"], apart := false, laid := [("vesper/sprite.pictures", laid_vesper_sprite_pictures)] }
def SpriteDigitsSaid : Prop := spriteDigitsRow.holds Tryd.pinned (OpenSpec.ofChange spriteDigitsSpec)

/-- ITS FALSE NEIGHBOUR: 'it returns false'. Refute it at one input. -/
def spriteDigitsWrong : ChangeSpec := { name := "spriteDigits", fn := fun _ => fun
  | [] => { results := [.lit (.bool false)], args := [] }
  | _ => none }
def SpriteDigitsWrongFalsely : Prop := spriteDigitsRow.holds Tryd.pinned (OpenSpec.ofChange spriteDigitsWrong)

/-- 'vesperlaw17.SpriteExact': WHATEVER THE INPUT: true; the input reads as it did. -/
def spriteExactSpec : ChangeSpec := { name := "spriteExact", fn := fun _ => fun
  | [d1, d2, d3] => { results := [.lit (.bool true)], args := [d1, d2, d3] }
  | _ => none }
def spriteExactRow : OpenClaim := { program := "ytcakdalajafmoaadoor", sum := "529b53e637a04fc2b202c0912804871f2844647deea0266d177a3a7e64be8da8", func := "vesper/vesperlaw17.SpriteExact", spec := "spriteExact", unfollowed := true, recurses := true, named := ["vesper/sprite.pictures"], apart := false, laid := [("vesper/sprite.pictures", laid_vesper_sprite_pictures)] }
def SpriteExactSaid : Prop := spriteExactRow.holds Tryd.pinned (OpenSpec.ofChange spriteExactSpec)

/-- ITS FALSE NEIGHBOUR: 'it returns false'. Refute it at one input. -/
def spriteExactWrong : ChangeSpec := { name := "spriteExact", fn := fun _ => fun
  | [d1, d2, d3] => { results := [.lit (.bool false)], args := [d1, d2, d3] }
  | _ => none }
def SpriteExactWrongFalsely : Prop := spriteExactRow.holds Tryd.pinned (OpenSpec.ofChange spriteExactWrong)

/- THE SECOND FORM. 'bulk': how many values and letters a reading holds, each counted each time it is reached (what is shared counts as often as it is met; a slice's spare places count too). A statement '..UptoSaid' is the law's where the arguments, and the package variables that the reading takes, are together of bulk at most 1048576: NARROWER than '..Said'. Prove '..Said' where nothing that the law and all that it calls make is longer than what came in: it says more and counts as full. Else prove '..UptoSaid'. A law counts once. -/
mutual
def uptoBulk {H : Type} : DataW H → Nat
  | .lit (.string bytes) => bytes.length + 1
  | .lit _ => 1
  | .nil => 1
  | .ptr d => uptoBulk d + 1
  | .slice elems spare => uptoBulkAll elems + uptoBulkAll spare + 1
  | .agg parts => uptoBulkAll parts + 1
  | .iface _ d => uptoBulk d + 1
  | .map entries => uptoBulkEntries entries + 1
  | .held _ => 1
def uptoBulkAll {H : Type} : List (DataW H) → Nat
  | [] => 0
  | d :: r => uptoBulk d + uptoBulkAll r
def uptoBulkEntries {H : Type} : List (Lit × DataW H) → Nat
  | [] => 0
  | x :: r => uptoBulkEntry x + uptoBulkEntries r
def uptoBulkEntry {H : Type} : Lit × DataW H → Nat
  | (.string bytes, d) => bytes.length + uptoBulk d + 1
  | (_, d) => uptoBulk d + 1
 end
def uptoSmall : (H : Type) → List (DataW H) → Bool := fun _ ds => decide (uptoBulkAll ds ≤ 1048576)
def OpenSpec.upto (s : _root_.Go.ChangeSpec) : _root_.Go.OpenSpec := { _root_.Go.OpenSpec.ofChange s with cond := some uptoSmall }

/-- 'vesperlaw17.SpriteDigits', WHERE WHAT IT READS IS OF BULK AT MOST 1048576: true; the input reads as it did. -/
def spriteDigitsUptoRow : OpenClaim := { program := "ytcakdalajafmoaadoor", sum := "529b53e637a04fc2b202c0912804871f2844647deea0266d177a3a7e64be8da8", func := "vesper/vesperlaw17.SpriteDigits", spec := "spriteDigits", named := ["vesper/sprite.pictures"], apart := false, laid := [("vesper/sprite.pictures", laid_vesper_sprite_pictures)], narrowed := true }
def SpriteDigitsUptoSaid : Prop := spriteDigitsUptoRow.holds Tryd.pinned (OpenSpec.upto spriteDigitsSpec)

/-- 'vesperlaw17.SpriteExact', WHERE WHAT IT READS IS OF BULK AT MOST 1048576: true; the input reads as it did. -/
def spriteExactUptoRow : OpenClaim := { program := "ytcakdalajafmoaadoor", sum := "529b53e637a04fc2b202c0912804871f2844647deea0266d177a3a7e64be8da8", func := "vesper/vesperlaw17.SpriteExact", spec := "spriteExact", unfollowed := true, recurses := true, named := ["vesper/sprite.pictures"], apart := false, laid := [("vesper/sprite.pictures", laid_vesper_sprite_pictures)], narrowed := true }
def SpriteExactUptoSaid : Prop := spriteExactUptoRow.holds Tryd.pinned (OpenSpec.upto spriteExactSpec)

end Rows
end Go.Proofs.YtcakdalajafmoaaDoor
