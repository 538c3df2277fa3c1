/-
  No cell of these rows narrows 'for every input' (looked for: loops, veiled, ifaces, maps, wideKeys, modest, calm, conditions, laid).
  DERIVED. THE GIVEN ROWS OF THIS SEAT. 3 by the template 'for every input the law returns true; each argument reads behind the call as it read before'; 0 by the template 'total and deterministic' (their statements: YtcakdalajafmoaaTotals.lean).
  GIVEN WITH THE SEED: the statements are not yours to turn. If you find one false, say at which input.
  Laid BY PROGRAM, IN A SANDBOX (cutbox-rows.mjs): the forced cells as the released guide's own fill.sh prints them over the translation 0163115aa90f338a… (all of the seat's roots in one cut). By AI agents, Wed Nov 11 2026. No macro, syntax, notation, axiom, sorry.
-/
import Derived.Test.YtcakdalajafmoaaChecked
import GoSem.Claim
import GoSem.ClaimJoined
import GoSem.ClaimMapViews
import Derived.JoinedTies
import Derived.KernelRfl
namespace Go.Proofs.Ytcakdalajafmoaa
/- THE CELL 'sum', in the pinned program and in every row, IS THE sha256 OF THE DUMP (.gsa) THAT YtcakdalajafmoaaProg.lean LOADS. Nothing in Lean hashes anything: it is a label: what it is worth is what the hold of that sum in a sandbox is worth. -/
noncomputable def Try.pinned : Pinned := { name := "ytcakdalajafmoaa", sum := "0163115aa90f338a3dd11bb090f66a01d4acb30c2278acbdbd8efa851cead30f", checked := Try.checked }
namespace Rows
def none {H : Type} : Left H := { results := [], args := [] }

/-- 'vesperlaw17.SpriteDots': WHATEVER THE INPUT: true; the input reads as it did. -/
def spriteDotsSpec : ChangeSpec := { name := "spriteDots", fn := fun _ => fun
  | [d1, d2] => { results := [.lit (.bool true)], args := [d1, d2] }
  | _ => none }
def spriteDotsRow : OpenClaim := { program := "ytcakdalajafmoaa", sum := "0163115aa90f338a3dd11bb090f66a01d4acb30c2278acbdbd8efa851cead30f", func := "vesper/vesperlaw17.SpriteDots", spec := "spriteDots", unfollowed := true, recurses := true, apart := false }
def SpriteDotsSaid : Prop := spriteDotsRow.holds Try.pinned (OpenSpec.ofChange spriteDotsSpec)

/-- ITS FALSE NEIGHBOUR: 'it returns false'. Refute it at one input. -/
def spriteDotsWrong : ChangeSpec := { name := "spriteDots", fn := fun _ => fun
  | [d1, d2] => { results := [.lit (.bool false)], args := [d1, d2] }
  | _ => none }
def SpriteDotsWrongFalsely : Prop := spriteDotsRow.holds Try.pinned (OpenSpec.ofChange spriteDotsWrong)

/-- 'vesperlaw17.SpriteTurns': WHATEVER THE INPUT: true; the input reads as it did. -/
def spriteTurnsSpec : ChangeSpec := { name := "spriteTurns", fn := fun _ => fun
  | [d1, d2, d3] => { results := [.lit (.bool true)], args := [d1, d2, d3] }
  | _ => none }
def spriteTurnsRow : OpenClaim := { program := "ytcakdalajafmoaa", sum := "0163115aa90f338a3dd11bb090f66a01d4acb30c2278acbdbd8efa851cead30f", func := "vesper/vesperlaw17.SpriteTurns", spec := "spriteTurns", unfollowed := true, recurses := true, apart := false }
def SpriteTurnsSaid : Prop := spriteTurnsRow.holds Try.pinned (OpenSpec.ofChange spriteTurnsSpec)

/-- ITS FALSE NEIGHBOUR: 'it returns false'. Refute it at one input. -/
def spriteTurnsWrong : ChangeSpec := { name := "spriteTurns", fn := fun _ => fun
  | [d1, d2, d3] => { results := [.lit (.bool false)], args := [d1, d2, d3] }
  | _ => none }
def SpriteTurnsWrongFalsely : Prop := spriteTurnsRow.holds Try.pinned (OpenSpec.ofChange spriteTurnsWrong)

/-- 'vesperlaw17.SpriteText': WHATEVER THE INPUT: true; the input reads as it did. -/
def spriteTextSpec : ChangeSpec := { name := "spriteText", fn := fun _ => fun
  | [d1, d2] => { results := [.lit (.bool true)], args := [d1, d2] }
  | _ => none }
def spriteTextRow : OpenClaim := { program := "ytcakdalajafmoaa", sum := "0163115aa90f338a3dd11bb090f66a01d4acb30c2278acbdbd8efa851cead30f", func := "vesper/vesperlaw17.SpriteText", spec := "spriteText", apart := false }
def SpriteTextSaid : Prop := spriteTextRow.holds Try.pinned (OpenSpec.ofChange spriteTextSpec)

/-- ITS FALSE NEIGHBOUR: 'it returns false'. Refute it at one input. -/
def spriteTextWrong : ChangeSpec := { name := "spriteText", fn := fun _ => fun
  | [d1, d2] => { results := [.lit (.bool false)], args := [d1, d2] }
  | _ => none }
def SpriteTextWrongFalsely : Prop := spriteTextRow.holds Try.pinned (OpenSpec.ofChange spriteTextWrong)

/- THE SECOND FORM. 'bulk': how many values and letters a reading holds, each counted each time it is reached (what is shared counts as often as it is met; a slice's spare places count too). A statement '..UptoSaid' is the law's where the arguments, and the package variables that the reading takes, are together of bulk at most 1048576: NARROWER than '..Said'. Prove '..Said' where nothing that the law and all that it calls make is longer than what came in: it says more and counts as full. Else prove '..UptoSaid'. A law counts once. -/
mutual
def uptoBulk {H : Type} : DataW H → Nat
  | .lit (.string bytes) => bytes.length + 1
  | .lit _ => 1
  | .nil => 1
  | .ptr d => uptoBulk d + 1
  | .slice elems spare => uptoBulkAll elems + uptoBulkAll spare + 1
  | .agg parts => uptoBulkAll parts + 1
  | .iface _ d => uptoBulk d + 1
  | .map entries => uptoBulkEntries entries + 1
  | .held _ => 1
def uptoBulkAll {H : Type} : List (DataW H) → Nat
  | [] => 0
  | d :: r => uptoBulk d + uptoBulkAll r
def uptoBulkEntries {H : Type} : List (Lit × DataW H) → Nat
  | [] => 0
  | x :: r => uptoBulkEntry x + uptoBulkEntries r
def uptoBulkEntry {H : Type} : Lit × DataW H → Nat
  | (.string bytes, d) => bytes.length + uptoBulk d + 1
  | (_, d) => uptoBulk d + 1
 end
def uptoSmall : (H : Type) → List (DataW H) → Bool := fun _ ds => decide (uptoBulkAll ds ≤ 1048576)
def OpenSpec.upto (s : _root_.Go.ChangeSpec) : _root_.Go.OpenSpec := { _root_.Go.OpenSpec.ofChange s with cond := some uptoSmall }

/-- 'vesperlaw17.SpriteDots', WHERE WHAT IT READS IS OF BULK AT MOST 1048576: true; the input reads as it did. -/
def spriteDotsUptoRow : OpenClaim := { program := "ytcakdalajafmoaa", sum := "0163115aa90f338a3dd11bb090f66a01d4acb30c2278acbdbd8efa851cead30f", func := "vesper/vesperlaw17.SpriteDots", spec := "spriteDots", unfollowed := true, recurses := true, apart := false, narrowed := true }
def SpriteDotsUptoSaid : Prop := spriteDotsUptoRow.holds Try.pinned (OpenSpec.upto spriteDotsSpec)

/-- 'vesperlaw17.SpriteTurns', WHERE WHAT IT READS IS OF BULK AT MOST 1048576: true; the input reads as it did. -/
def spriteTurnsUptoRow : OpenClaim := { program := "ytcakdalajafmoaa", sum := "0163115aa90f338a3dd11bb090f66a01d4acb30c2278acbdbd8efa851cead30f", func := "vesper/vesperlaw17.SpriteTurns", spec := "spriteTurns", unfollowed := true, recurses := true, apart := false, narrowed := true }
def SpriteTurnsUptoSaid : Prop := spriteTurnsUptoRow.holds Try.pinned (OpenSpec.upto spriteTurnsSpec)

/-- 'vesperlaw17.SpriteText', WHERE WHAT IT READS IS OF BULK AT MOST 1048576: true; the input reads as it did. -/
def spriteTextUptoRow : OpenClaim := { program := "ytcakdalajafmoaa", sum := "0163115aa90f338a3dd11bb090f66a01d4acb30c2278acbdbd8efa851cead30f", func := "vesper/vesperlaw17.SpriteText", spec := "spriteText", apart := false, narrowed := true }
def SpriteTextUptoSaid : Prop := spriteTextUptoRow.holds Try.pinned (OpenSpec.upto spriteTextSpec)

end Rows
end Go.Proofs.Ytcakdalajafmoaa
