/-
  NARROWER THAN 'FOR EVERY INPUT', by the rows' own cells (each row's printed sentence says how): PixieWindows: laid · PixieHeld: laid · PixieRound: laid · PixieExact: laid.
  DERIVED. THE GIVEN ROWS OF THIS SEAT. 4 by the template 'for every input the law returns true; each argument reads behind the call as it read before'; 0 by the template 'total and deterministic' (their statements: YtnmidobpknghgaaDoorTotals.lean).
  GIVEN WITH THE SEED: the statements are not yours to turn. If you find one false, say at which input.
  Laid BY PROGRAM, IN A SANDBOX (cutbox-rows.mjs): the forced cells as the released guide's own fill.sh prints them over the translation 67f8864e3bb7be21… (all of the seat's roots in one cut). By AI agents, Wed Nov 11 2026. No macro, syntax, notation, axiom, sorry.
-/
import Derived.Test.YtnmidobpknghgaaDoorChecked
import GoSem.Claim
import GoSem.ClaimJoined
import GoSem.ClaimMapViews
import Derived.JoinedTies
import Derived.KernelRfl
namespace Go.Proofs.YtnmidobpknghgaaDoor
/- THE CELL 'sum', in the pinned program and in every row, IS THE sha256 OF THE DUMP (.gsa) THAT YtnmidobpknghgaaDoorProg.lean LOADS. Nothing in Lean hashes anything: it is a label: what it is worth is what the hold of that sum in a sandbox is worth. -/
noncomputable def Tryd.pinned : Pinned := { name := "ytnmidobpknghgaadoor", sum := "67f8864e3bb7be2177766869befee45e928527b6d48ad54f0d04738c73cbf4e7", checked := Tryd.checked }
namespace Rows
def none {H : Type} : Left H := { results := [], args := [] }

/- WHAT THE LISTED PACKAGE-LEVEL VARIABLES READ AS WHEN THE CALL BEGINS. Each datum BY PROGRAM (the guide's laid-datum.mjs) off the statement by which the dump's own 'gosem.cut.vars' lays the variable. In a bare row this is a premise. The card (YtnmidobpknghgaaDoorCards.lean) ties it to the program's text. -/
def laid_vesper_pixie_asks {H : Type} : DataW H := .agg [.agg [.lit (.int .i64 78), .lit (.int .i64 79)]]
def laid_vesper_pixie_flags {H : Type} : DataW H := .agg [.agg [.lit (.int .i64 76), .lit (.int .i64 79)], .agg [.lit (.int .i64 204), .lit (.int .i64 207)]]
def laid_vesper_pixie_shown {H : Type} : DataW H := .agg [.agg [.lit (.int .i64 80), .lit (.int .i64 207)]]

/-- 'vesperlaw05.PixieWindows': WHATEVER THE INPUT: true; the input reads as it did. -/
def pixieWindowsSpec : ChangeSpec := { name := "pixieWindows", fn := fun _ => fun
  | [d1, d2, d3] => { results := [.lit (.bool true)], args := [d1, d2, d3] }
  | _ => none }
def pixieWindowsRow : OpenClaim := { program := "ytnmidobpknghgaadoor", sum := "67f8864e3bb7be2177766869befee45e928527b6d48ad54f0d04738c73cbf4e7", func := "vesper/vesperlaw05.PixieWindows", spec := "pixieWindows", named := ["vesper/pixie.shown", "vesper/pixie.asks", "vesper/pixie.flags"], apart := false, laid := [("vesper/pixie.asks", laid_vesper_pixie_asks), ("vesper/pixie.flags", laid_vesper_pixie_flags), ("vesper/pixie.shown", laid_vesper_pixie_shown)] }
def PixieWindowsSaid : Prop := pixieWindowsRow.holds Tryd.pinned (OpenSpec.ofChange pixieWindowsSpec)

/-- ITS FALSE NEIGHBOUR: 'it returns false'. Refute it at one input. -/
def pixieWindowsWrong : ChangeSpec := { name := "pixieWindows", fn := fun _ => fun
  | [d1, d2, d3] => { results := [.lit (.bool false)], args := [d1, d2, d3] }
  | _ => none }
def PixieWindowsWrongFalsely : Prop := pixieWindowsRow.holds Tryd.pinned (OpenSpec.ofChange pixieWindowsWrong)

/-- 'vesperlaw05.PixieHeld': WHATEVER THE INPUT: true; the input reads as it did. -/
def pixieHeldSpec : ChangeSpec := { name := "pixieHeld", fn := fun _ => fun
  | [d1, d2] => { results := [.lit (.bool true)], args := [d1, d2] }
  | _ => none }
def pixieHeldRow : OpenClaim := { program := "ytnmidobpknghgaadoor", sum := "67f8864e3bb7be2177766869befee45e928527b6d48ad54f0d04738c73cbf4e7", func := "vesper/vesperlaw05.PixieHeld", spec := "pixieHeld", named := ["vesper/pixie.shown"], apart := false, laid := [("vesper/pixie.shown", laid_vesper_pixie_shown)] }
def PixieHeldSaid : Prop := pixieHeldRow.holds Tryd.pinned (OpenSpec.ofChange pixieHeldSpec)

/-- ITS FALSE NEIGHBOUR: 'it returns false'. Refute it at one input. -/
def pixieHeldWrong : ChangeSpec := { name := "pixieHeld", fn := fun _ => fun
  | [d1, d2] => { results := [.lit (.bool false)], args := [d1, d2] }
  | _ => none }
def PixieHeldWrongFalsely : Prop := pixieHeldRow.holds Tryd.pinned (OpenSpec.ofChange pixieHeldWrong)

/-- 'vesperlaw05.PixieRound': WHATEVER THE INPUT: true; the input reads as it did. -/
def pixieRoundSpec : ChangeSpec := { name := "pixieRound", fn := fun _ => fun
  | [d1, d2] => { results := [.lit (.bool true)], args := [d1, d2] }
  | _ => none }
def pixieRoundRow : OpenClaim := { program := "ytnmidobpknghgaadoor", sum := "67f8864e3bb7be2177766869befee45e928527b6d48ad54f0d04738c73cbf4e7", func := "vesper/vesperlaw05.PixieRound", spec := "pixieRound", named := ["vesper/pixie.shown", "vesper/pixie.asks"], apart := false, laid := [("vesper/pixie.asks", laid_vesper_pixie_asks), ("vesper/pixie.shown", laid_vesper_pixie_shown)] }
def PixieRoundSaid : Prop := pixieRoundRow.holds Tryd.pinned (OpenSpec.ofChange pixieRoundSpec)

/-- ITS FALSE NEIGHBOUR: 'it returns false'. Refute it at one input. -/
def pixieRoundWrong : ChangeSpec := { name := "pixieRound", fn := fun _ => fun
  | [d1, d2] => { results := [.lit (.bool false)], args := [d1, d2] }
  | _ => none }
def PixieRoundWrongFalsely : Prop := pixieRoundRow.holds Tryd.pinned (OpenSpec.ofChange pixieRoundWrong)

/-- 'vesperlaw05.PixieExact': WHATEVER THE INPUT: true; the input reads as it did. -/
def pixieExactSpec : ChangeSpec := { name := "pixieExact", fn := fun _ => fun
  | [d1, d2] => { results := [.lit (.bool true)], args := [d1, d2] }
  | _ => none }
def pixieExactRow : OpenClaim := { program := "ytnmidobpknghgaadoor", sum := "67f8864e3bb7be2177766869befee45e928527b6d48ad54f0d04738c73cbf4e7", func := "vesper/vesperlaw05.PixieExact", spec := "pixieExact", named := ["vesper/pixie.shown", "vesper/pixie.asks", "vesper/pixie.flags"], apart := false, laid := [("vesper/pixie.asks", laid_vesper_pixie_asks), ("vesper/pixie.flags", laid_vesper_pixie_flags), ("vesper/pixie.shown", laid_vesper_pixie_shown)] }
def PixieExactSaid : Prop := pixieExactRow.holds Tryd.pinned (OpenSpec.ofChange pixieExactSpec)

/-- ITS FALSE NEIGHBOUR: 'it returns false'. Refute it at one input. -/
def pixieExactWrong : ChangeSpec := { name := "pixieExact", fn := fun _ => fun
  | [d1, d2] => { results := [.lit (.bool false)], args := [d1, d2] }
  | _ => none }
def PixieExactWrongFalsely : Prop := pixieExactRow.holds Tryd.pinned (OpenSpec.ofChange pixieExactWrong)

/- THE SECOND FORM. 'bulk': how many values and letters a reading holds, each counted each time it is reached (what is shared counts as often as it is met; a slice's spare places count too). A statement '..UptoSaid' is the law's where the arguments, and the package variables that the reading takes, are together of bulk at most 1048576: NARROWER than '..Said'. Prove '..Said' where nothing that the law and all that it calls make is longer than what came in: it says more and counts as full. Else prove '..UptoSaid'. A law counts once. -/
mutual
def uptoBulk {H : Type} : DataW H → Nat
  | .lit (.string bytes) => bytes.length + 1
  | .lit _ => 1
  | .nil => 1
  | .ptr d => uptoBulk d + 1
  | .slice elems spare => uptoBulkAll elems + uptoBulkAll spare + 1
  | .agg parts => uptoBulkAll parts + 1
  | .iface _ d => uptoBulk d + 1
  | .map entries => uptoBulkEntries entries + 1
  | .held _ => 1
def uptoBulkAll {H : Type} : List (DataW H) → Nat
  | [] => 0
  | d :: r => uptoBulk d + uptoBulkAll r
def uptoBulkEntries {H : Type} : List (Lit × DataW H) → Nat
  | [] => 0
  | x :: r => uptoBulkEntry x + uptoBulkEntries r
def uptoBulkEntry {H : Type} : Lit × DataW H → Nat
  | (.string bytes, d) => bytes.length + uptoBulk d + 1
  | (_, d) => uptoBulk d + 1
 end
def uptoSmall : (H : Type) → List (DataW H) → Bool := fun _ ds => decide (uptoBulkAll ds ≤ 1048576)
def OpenSpec.upto (s : _root_.Go.ChangeSpec) : _root_.Go.OpenSpec := { _root_.Go.OpenSpec.ofChange s with cond := some uptoSmall }

/-- 'vesperlaw05.PixieWindows', WHERE WHAT IT READS IS OF BULK AT MOST 1048576: true; the input reads as it did. -/
def pixieWindowsUptoRow : OpenClaim := { program := "ytnmidobpknghgaadoor", sum := "67f8864e3bb7be2177766869befee45e928527b6d48ad54f0d04738c73cbf4e7", func := "vesper/vesperlaw05.PixieWindows", spec := "pixieWindows", named := ["vesper/pixie.shown", "vesper/pixie.asks", "vesper/pixie.flags"], apart := false, laid := [("vesper/pixie.asks", laid_vesper_pixie_asks), ("vesper/pixie.flags", laid_vesper_pixie_flags), ("vesper/pixie.shown", laid_vesper_pixie_shown)], narrowed := true }
def PixieWindowsUptoSaid : Prop := pixieWindowsUptoRow.holds Tryd.pinned (OpenSpec.upto pixieWindowsSpec)

/-- 'vesperlaw05.PixieHeld', WHERE WHAT IT READS IS OF BULK AT MOST 1048576: true; the input reads as it did. -/
def pixieHeldUptoRow : OpenClaim := { program := "ytnmidobpknghgaadoor", sum := "67f8864e3bb7be2177766869befee45e928527b6d48ad54f0d04738c73cbf4e7", func := "vesper/vesperlaw05.PixieHeld", spec := "pixieHeld", named := ["vesper/pixie.shown"], apart := false, laid := [("vesper/pixie.shown", laid_vesper_pixie_shown)], narrowed := true }
def PixieHeldUptoSaid : Prop := pixieHeldUptoRow.holds Tryd.pinned (OpenSpec.upto pixieHeldSpec)

/-- 'vesperlaw05.PixieRound', WHERE WHAT IT READS IS OF BULK AT MOST 1048576: true; the input reads as it did. -/
def pixieRoundUptoRow : OpenClaim := { program := "ytnmidobpknghgaadoor", sum := "67f8864e3bb7be2177766869befee45e928527b6d48ad54f0d04738c73cbf4e7", func := "vesper/vesperlaw05.PixieRound", spec := "pixieRound", named := ["vesper/pixie.shown", "vesper/pixie.asks"], apart := false, laid := [("vesper/pixie.asks", laid_vesper_pixie_asks), ("vesper/pixie.shown", laid_vesper_pixie_shown)], narrowed := true }
def PixieRoundUptoSaid : Prop := pixieRoundUptoRow.holds Tryd.pinned (OpenSpec.upto pixieRoundSpec)

/-- 'vesperlaw05.PixieExact', WHERE WHAT IT READS IS OF BULK AT MOST 1048576: true; the input reads as it did. -/
def pixieExactUptoRow : OpenClaim := { program := "ytnmidobpknghgaadoor", sum := "67f8864e3bb7be2177766869befee45e928527b6d48ad54f0d04738c73cbf4e7", func := "vesper/vesperlaw05.PixieExact", spec := "pixieExact", named := ["vesper/pixie.shown", "vesper/pixie.asks", "vesper/pixie.flags"], apart := false, laid := [("vesper/pixie.asks", laid_vesper_pixie_asks), ("vesper/pixie.flags", laid_vesper_pixie_flags), ("vesper/pixie.shown", laid_vesper_pixie_shown)], narrowed := true }
def PixieExactUptoSaid : Prop := pixieExactUptoRow.holds Tryd.pinned (OpenSpec.upto pixieExactSpec)

end Rows
end Go.Proofs.YtnmidobpknghgaaDoor
