/-
  No cell of these rows narrows 'for every input' (looked for: loops, veiled, ifaces, maps, wideKeys, modest, calm, conditions, laid).
  DERIVED. THE GIVEN ROWS OF THIS SEAT. 8 by the template 'for every input the law returns true; each argument reads behind the call as it read before'; 0 by the template 'total and deterministic' (their statements: YtgioegdjeodpiaaTotals.lean).
  GIVEN WITH THE SEED: the statements are not yours to turn. If you find one false, say at which input.
  Laid BY PROGRAM, IN A SANDBOX (cutbox-rows.mjs): the forced cells as the released guide's own fill.sh prints them over the translation 4d81e3ac75c2007b… (all of the seat's roots in one cut). By AI agents, Wed Nov 11 2026. No macro, syntax, notation, axiom, sorry.
-/
import Derived.Test.YtgioegdjeodpiaaChecked
import GoSem.Claim
import GoSem.ClaimJoined
import GoSem.ClaimMapViews
import Derived.JoinedTies
import Derived.KernelRfl
namespace Go.Proofs.Ytgioegdjeodpiaa
/- THE CELL 'sum', in the pinned program and in every row, IS THE sha256 OF THE DUMP (.gsa) THAT YtgioegdjeodpiaaProg.lean LOADS. Nothing in Lean hashes anything: it is a label: what it is worth is what the hold of that sum in a sandbox is worth. -/
noncomputable def Try.pinned : Pinned := { name := "ytgioegdjeodpiaa", sum := "4d81e3ac75c2007b0c9c8aea82bb2919951b1f32c15f376fb29a813438b3c78f", checked := Try.checked }
namespace Rows
def none {H : Type} : Left H := { results := [], args := [] }

/-- 'vesperlaw18.GameNames': WHATEVER THE INPUT: true; the input reads as it did. -/
def gameNamesSpec : ChangeSpec := { name := "gameNames", fn := fun _ => fun
  | [] => { results := [.lit (.bool true)], args := [] }
  | _ => none }
def gameNamesRow : OpenClaim := { program := "ytgioegdjeodpiaa", sum := "4d81e3ac75c2007b0c9c8aea82bb2919951b1f32c15f376fb29a813438b3c78f", func := "vesper/vesperlaw18.GameNames", spec := "gameNames", apart := false }
def GameNamesSaid : Prop := gameNamesRow.holds Try.pinned (OpenSpec.ofChange gameNamesSpec)

/-- ITS FALSE NEIGHBOUR: 'it returns false'. Refute it at one input. -/
def gameNamesWrong : ChangeSpec := { name := "gameNames", fn := fun _ => fun
  | [] => { results := [.lit (.bool false)], args := [] }
  | _ => none }
def GameNamesWrongFalsely : Prop := gameNamesRow.holds Try.pinned (OpenSpec.ofChange gameNamesWrong)

/-- 'vesperlaw18.GameNew': WHATEVER THE INPUT: true; the input reads as it did. -/
def gameNewSpec : ChangeSpec := { name := "gameNew", fn := fun _ => fun
  | [d] => { results := [.lit (.bool true)], args := [d] }
  | _ => none }
def gameNewRow : OpenClaim := { program := "ytgioegdjeodpiaa", sum := "4d81e3ac75c2007b0c9c8aea82bb2919951b1f32c15f376fb29a813438b3c78f", func := "vesper/vesperlaw18.GameNew", spec := "gameNew", unfollowed := true, recurses := true, apart := false }
def GameNewSaid : Prop := gameNewRow.holds Try.pinned (OpenSpec.ofChange gameNewSpec)

/-- ITS FALSE NEIGHBOUR: 'it returns false'. Refute it at one input. -/
def gameNewWrong : ChangeSpec := { name := "gameNew", fn := fun _ => fun
  | [d] => { results := [.lit (.bool false)], args := [d] }
  | _ => none }
def GameNewWrongFalsely : Prop := gameNewRow.holds Try.pinned (OpenSpec.ofChange gameNewWrong)

/-- 'vesperlaw18.GameNext': WHATEVER THE INPUT: true; the input reads as it did. -/
def gameNextSpec : ChangeSpec := { name := "gameNext", fn := fun _ => fun
  | [d] => { results := [.lit (.bool true)], args := [d] }
  | _ => none }
def gameNextRow : OpenClaim := { program := "ytgioegdjeodpiaa", sum := "4d81e3ac75c2007b0c9c8aea82bb2919951b1f32c15f376fb29a813438b3c78f", func := "vesper/vesperlaw18.GameNext", spec := "gameNext", unfollowed := true, recurses := true, apart := false }
def GameNextSaid : Prop := gameNextRow.holds Try.pinned (OpenSpec.ofChange gameNextSpec)

/-- ITS FALSE NEIGHBOUR: 'it returns false'. Refute it at one input. -/
def gameNextWrong : ChangeSpec := { name := "gameNext", fn := fun _ => fun
  | [d] => { results := [.lit (.bool false)], args := [d] }
  | _ => none }
def GameNextWrongFalsely : Prop := gameNextRow.holds Try.pinned (OpenSpec.ofChange gameNextWrong)

/-- 'vesperlaw18.GameHangs': WHATEVER THE INPUT: true; the input reads as it did. -/
def gameHangsSpec : ChangeSpec := { name := "gameHangs", fn := fun _ => fun
  | [d1, d2, d3] => { results := [.lit (.bool true)], args := [d1, d2, d3] }
  | _ => none }
def gameHangsRow : OpenClaim := { program := "ytgioegdjeodpiaa", sum := "4d81e3ac75c2007b0c9c8aea82bb2919951b1f32c15f376fb29a813438b3c78f", func := "vesper/vesperlaw18.GameHangs", spec := "gameHangs", unfollowed := true, recurses := true, apart := false }
def GameHangsSaid : Prop := gameHangsRow.holds Try.pinned (OpenSpec.ofChange gameHangsSpec)

/-- ITS FALSE NEIGHBOUR: 'it returns false'. Refute it at one input. -/
def gameHangsWrong : ChangeSpec := { name := "gameHangs", fn := fun _ => fun
  | [d1, d2, d3] => { results := [.lit (.bool false)], args := [d1, d2, d3] }
  | _ => none }
def GameHangsWrongFalsely : Prop := gameHangsRow.holds Try.pinned (OpenSpec.ofChange gameHangsWrong)

/-- 'vesperlaw18.GameTwice': WHATEVER THE INPUT: true; the input reads as it did. -/
def gameTwiceSpec : ChangeSpec := { name := "gameTwice", fn := fun _ => fun
  | [d1, d2, d3] => { results := [.lit (.bool true)], args := [d1, d2, d3] }
  | _ => none }
def gameTwiceRow : OpenClaim := { program := "ytgioegdjeodpiaa", sum := "4d81e3ac75c2007b0c9c8aea82bb2919951b1f32c15f376fb29a813438b3c78f", func := "vesper/vesperlaw18.GameTwice", spec := "gameTwice", unfollowed := true, recurses := true, apart := false }
def GameTwiceSaid : Prop := gameTwiceRow.holds Try.pinned (OpenSpec.ofChange gameTwiceSpec)

/-- ITS FALSE NEIGHBOUR: 'it returns false'. Refute it at one input. -/
def gameTwiceWrong : ChangeSpec := { name := "gameTwice", fn := fun _ => fun
  | [d1, d2, d3] => { results := [.lit (.bool false)], args := [d1, d2, d3] }
  | _ => none }
def GameTwiceWrongFalsely : Prop := gameTwiceRow.holds Try.pinned (OpenSpec.ofChange gameTwiceWrong)

/-- 'vesperlaw18.GameCalls': WHATEVER THE INPUT: true; the input reads as it did. -/
def gameCallsSpec : ChangeSpec := { name := "gameCalls", fn := fun _ => fun
  | [d1, d2, d3] => { results := [.lit (.bool true)], args := [d1, d2, d3] }
  | _ => none }
def gameCallsRow : OpenClaim := { program := "ytgioegdjeodpiaa", sum := "4d81e3ac75c2007b0c9c8aea82bb2919951b1f32c15f376fb29a813438b3c78f", func := "vesper/vesperlaw18.GameCalls", spec := "gameCalls", unfollowed := true, recurses := true, apart := false }
def GameCallsSaid : Prop := gameCallsRow.holds Try.pinned (OpenSpec.ofChange gameCallsSpec)

/-- ITS FALSE NEIGHBOUR: 'it returns false'. Refute it at one input. -/
def gameCallsWrong : ChangeSpec := { name := "gameCalls", fn := fun _ => fun
  | [d1, d2, d3] => { results := [.lit (.bool false)], args := [d1, d2, d3] }
  | _ => none }
def GameCallsWrongFalsely : Prop := gameCallsRow.holds Try.pinned (OpenSpec.ofChange gameCallsWrong)

/-- 'vesperlaw18.GameTouches': WHATEVER THE INPUT: true; the input reads as it did. -/
def gameTouchesSpec : ChangeSpec := { name := "gameTouches", fn := fun _ => fun
  | [d1, d2, d3] => { results := [.lit (.bool true)], args := [d1, d2, d3] }
  | _ => none }
def gameTouchesRow : OpenClaim := { program := "ytgioegdjeodpiaa", sum := "4d81e3ac75c2007b0c9c8aea82bb2919951b1f32c15f376fb29a813438b3c78f", func := "vesper/vesperlaw18.GameTouches", spec := "gameTouches", unfollowed := true, recurses := true, apart := false }
def GameTouchesSaid : Prop := gameTouchesRow.holds Try.pinned (OpenSpec.ofChange gameTouchesSpec)

/-- ITS FALSE NEIGHBOUR: 'it returns false'. Refute it at one input. -/
def gameTouchesWrong : ChangeSpec := { name := "gameTouches", fn := fun _ => fun
  | [d1, d2, d3] => { results := [.lit (.bool false)], args := [d1, d2, d3] }
  | _ => none }
def GameTouchesWrongFalsely : Prop := gameTouchesRow.holds Try.pinned (OpenSpec.ofChange gameTouchesWrong)

/-- 'vesperlaw18.GameMay': WHATEVER THE INPUT: true; the input reads as it did. -/
def gameMaySpec : ChangeSpec := { name := "gameMay", fn := fun _ => fun
  | [d1, d2, d3] => { results := [.lit (.bool true)], args := [d1, d2, d3] }
  | _ => none }
def gameMayRow : OpenClaim := { program := "ytgioegdjeodpiaa", sum := "4d81e3ac75c2007b0c9c8aea82bb2919951b1f32c15f376fb29a813438b3c78f", func := "vesper/vesperlaw18.GameMay", spec := "gameMay", unfollowed := true, recurses := true, apart := false }
def GameMaySaid : Prop := gameMayRow.holds Try.pinned (OpenSpec.ofChange gameMaySpec)

/-- ITS FALSE NEIGHBOUR: 'it returns false'. Refute it at one input. -/
def gameMayWrong : ChangeSpec := { name := "gameMay", fn := fun _ => fun
  | [d1, d2, d3] => { results := [.lit (.bool false)], args := [d1, d2, d3] }
  | _ => none }
def GameMayWrongFalsely : Prop := gameMayRow.holds Try.pinned (OpenSpec.ofChange gameMayWrong)

/- THE SECOND FORM. 'bulk': how many values and letters a reading holds, each counted each time it is reached (what is shared counts as often as it is met; a slice's spare places count too). A statement '..UptoSaid' is the law's where the arguments, and the package variables that the reading takes, are together of bulk at most 1048576: NARROWER than '..Said'. Prove '..Said' where nothing that the law and all that it calls make is longer than what came in: it says more and counts as full. Else prove '..UptoSaid'. A law counts once. -/
mutual
def uptoBulk {H : Type} : DataW H → Nat
  | .lit (.string bytes) => bytes.length + 1
  | .lit _ => 1
  | .nil => 1
  | .ptr d => uptoBulk d + 1
  | .slice elems spare => uptoBulkAll elems + uptoBulkAll spare + 1
  | .agg parts => uptoBulkAll parts + 1
  | .iface _ d => uptoBulk d + 1
  | .map entries => uptoBulkEntries entries + 1
  | .held _ => 1
def uptoBulkAll {H : Type} : List (DataW H) → Nat
  | [] => 0
  | d :: r => uptoBulk d + uptoBulkAll r
def uptoBulkEntries {H : Type} : List (Lit × DataW H) → Nat
  | [] => 0
  | x :: r => uptoBulkEntry x + uptoBulkEntries r
def uptoBulkEntry {H : Type} : Lit × DataW H → Nat
  | (.string bytes, d) => bytes.length + uptoBulk d + 1
  | (_, d) => uptoBulk d + 1
 end
def uptoSmall : (H : Type) → List (DataW H) → Bool := fun _ ds => decide (uptoBulkAll ds ≤ 1048576)
def OpenSpec.upto (s : _root_.Go.ChangeSpec) : _root_.Go.OpenSpec := { _root_.Go.OpenSpec.ofChange s with cond := some uptoSmall }

/-- 'vesperlaw18.GameNames', WHERE WHAT IT READS IS OF BULK AT MOST 1048576: true; the input reads as it did. -/
def gameNamesUptoRow : OpenClaim := { program := "ytgioegdjeodpiaa", sum := "4d81e3ac75c2007b0c9c8aea82bb2919951b1f32c15f376fb29a813438b3c78f", func := "vesper/vesperlaw18.GameNames", spec := "gameNames", apart := false, narrowed := true }
def GameNamesUptoSaid : Prop := gameNamesUptoRow.holds Try.pinned (OpenSpec.upto gameNamesSpec)

/-- 'vesperlaw18.GameNew', WHERE WHAT IT READS IS OF BULK AT MOST 1048576: true; the input reads as it did. -/
def gameNewUptoRow : OpenClaim := { program := "ytgioegdjeodpiaa", sum := "4d81e3ac75c2007b0c9c8aea82bb2919951b1f32c15f376fb29a813438b3c78f", func := "vesper/vesperlaw18.GameNew", spec := "gameNew", unfollowed := true, recurses := true, apart := false, narrowed := true }
def GameNewUptoSaid : Prop := gameNewUptoRow.holds Try.pinned (OpenSpec.upto gameNewSpec)

/-- 'vesperlaw18.GameNext', WHERE WHAT IT READS IS OF BULK AT MOST 1048576: true; the input reads as it did. -/
def gameNextUptoRow : OpenClaim := { program := "ytgioegdjeodpiaa", sum := "4d81e3ac75c2007b0c9c8aea82bb2919951b1f32c15f376fb29a813438b3c78f", func := "vesper/vesperlaw18.GameNext", spec := "gameNext", unfollowed := true, recurses := true, apart := false, narrowed := true }
def GameNextUptoSaid : Prop := gameNextUptoRow.holds Try.pinned (OpenSpec.upto gameNextSpec)

/-- 'vesperlaw18.GameHangs', WHERE WHAT IT READS IS OF BULK AT MOST 1048576: true; the input reads as it did. -/
def gameHangsUptoRow : OpenClaim := { program := "ytgioegdjeodpiaa", sum := "4d81e3ac75c2007b0c9c8aea82bb2919951b1f32c15f376fb29a813438b3c78f", func := "vesper/vesperlaw18.GameHangs", spec := "gameHangs", unfollowed := true, recurses := true, apart := false, narrowed := true }
def GameHangsUptoSaid : Prop := gameHangsUptoRow.holds Try.pinned (OpenSpec.upto gameHangsSpec)

/-- 'vesperlaw18.GameTwice', WHERE WHAT IT READS IS OF BULK AT MOST 1048576: true; the input reads as it did. -/
def gameTwiceUptoRow : OpenClaim := { program := "ytgioegdjeodpiaa", sum := "4d81e3ac75c2007b0c9c8aea82bb2919951b1f32c15f376fb29a813438b3c78f", func := "vesper/vesperlaw18.GameTwice", spec := "gameTwice", unfollowed := true, recurses := true, apart := false, narrowed := true }
def GameTwiceUptoSaid : Prop := gameTwiceUptoRow.holds Try.pinned (OpenSpec.upto gameTwiceSpec)

/-- 'vesperlaw18.GameCalls', WHERE WHAT IT READS IS OF BULK AT MOST 1048576: true; the input reads as it did. -/
def gameCallsUptoRow : OpenClaim := { program := "ytgioegdjeodpiaa", sum := "4d81e3ac75c2007b0c9c8aea82bb2919951b1f32c15f376fb29a813438b3c78f", func := "vesper/vesperlaw18.GameCalls", spec := "gameCalls", unfollowed := true, recurses := true, apart := false, narrowed := true }
def GameCallsUptoSaid : Prop := gameCallsUptoRow.holds Try.pinned (OpenSpec.upto gameCallsSpec)

/-- 'vesperlaw18.GameTouches', WHERE WHAT IT READS IS OF BULK AT MOST 1048576: true; the input reads as it did. -/
def gameTouchesUptoRow : OpenClaim := { program := "ytgioegdjeodpiaa", sum := "4d81e3ac75c2007b0c9c8aea82bb2919951b1f32c15f376fb29a813438b3c78f", func := "vesper/vesperlaw18.GameTouches", spec := "gameTouches", unfollowed := true, recurses := true, apart := false, narrowed := true }
def GameTouchesUptoSaid : Prop := gameTouchesUptoRow.holds Try.pinned (OpenSpec.upto gameTouchesSpec)

/-- 'vesperlaw18.GameMay', WHERE WHAT IT READS IS OF BULK AT MOST 1048576: true; the input reads as it did. -/
def gameMayUptoRow : OpenClaim := { program := "ytgioegdjeodpiaa", sum := "4d81e3ac75c2007b0c9c8aea82bb2919951b1f32c15f376fb29a813438b3c78f", func := "vesper/vesperlaw18.GameMay", spec := "gameMay", unfollowed := true, recurses := true, apart := false, narrowed := true }
def GameMayUptoSaid : Prop := gameMayUptoRow.holds Try.pinned (OpenSpec.upto gameMaySpec)

end Rows
end Go.Proofs.Ytgioegdjeodpiaa
