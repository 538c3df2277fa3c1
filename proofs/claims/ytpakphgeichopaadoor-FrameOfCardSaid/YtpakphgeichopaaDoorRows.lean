/-
  NARROWER THAN 'FOR EVERY INPUT', by the rows' own cells (each row's printed sentence says how): FrameNames: laid · FrameOf: laid · FrameRuns: laid · FrameShows: laid · FrameParts: laid · FramePages: laid · FrameReads: laid · FrameBack: laid.
  DERIVED. THE GIVEN ROWS OF THIS SEAT. 8 by the template 'for every input the law returns true; each argument reads behind the call as it read before'; 0 by the template 'total and deterministic' (their statements: YtpakphgeichopaaDoorTotals.lean).
  GIVEN WITH THE SEED: the statements are not yours to turn. If you find one false, say at which input.
  Laid BY PROGRAM, IN A SANDBOX (cutbox-rows.mjs): the forced cells as the released guide's own fill.sh prints them over the translation 17d8151449ee3cec… (all of the seat's roots in one cut). By AI agents, Wed Nov 11 2026. No macro, syntax, notation, axiom, sorry.
-/
import Derived.Test.YtpakphgeichopaaDoorChecked
import GoSem.Claim
import GoSem.ClaimJoined
import GoSem.ClaimMapViews
import Derived.JoinedTies
import Derived.KernelRfl
namespace Go.Proofs.YtpakphgeichopaaDoor
/- THE CELL 'sum', in the pinned program and in every row, IS THE sha256 OF THE DUMP (.gsa) THAT YtpakphgeichopaaDoorProg.lean LOADS. Nothing in Lean hashes anything: it is a label: what it is worth is what the hold of that sum in a sandbox is worth. -/
noncomputable def Tryd.pinned : Pinned := { name := "ytpakphgeichopaadoor", sum := "17d8151449ee3cec9146ec7bf448d600d942c1444ba111af8fb185eba9a9d697", checked := Tryd.checked }
namespace Rows
def none {H : Type} : Left H := { results := [], args := [] }

/- WHAT THE LISTED PACKAGE-LEVEL VARIABLES READ AS WHEN THE CALL BEGINS. Each datum BY PROGRAM (the guide's laid-datum.mjs) off the statement by which the dump's own 'gosem.cut.vars' lays the variable. In a bare row this is a premise. The card (YtpakphgeichopaaDoorCards.lean) ties it to the program's text. -/
def laid_vesper_pixie_shown {H : Type} : DataW H := .agg [.agg [.lit (.int .i64 80), .lit (.int .i64 207)]]

/-- 'vesperlaw10.FrameNames': WHATEVER THE INPUT: true; the input reads as it did. -/
def frameNamesSpec : ChangeSpec := { name := "frameNames", fn := fun _ => fun
  | [] => { results := [.lit (.bool true)], args := [] }
  | _ => none }
def frameNamesRow : OpenClaim := { program := "ytpakphgeichopaadoor", sum := "17d8151449ee3cec9146ec7bf448d600d942c1444ba111af8fb185eba9a9d697", func := "vesper/vesperlaw10.FrameNames", spec := "frameNames", inPlace := ["internal/abi.NoEscape"], named := ["vesper/pixie.shown"], apart := false, laid := [("vesper/pixie.shown", laid_vesper_pixie_shown)] }
def FrameNamesSaid : Prop := frameNamesRow.holds Tryd.pinned (OpenSpec.ofChange frameNamesSpec)

/-- ITS FALSE NEIGHBOUR: 'it returns false'. Refute it at one input. -/
def frameNamesWrong : ChangeSpec := { name := "frameNames", fn := fun _ => fun
  | [] => { results := [.lit (.bool false)], args := [] }
  | _ => none }
def FrameNamesWrongFalsely : Prop := frameNamesRow.holds Tryd.pinned (OpenSpec.ofChange frameNamesWrong)

/-- 'vesperlaw10.FrameOf': WHATEVER THE INPUT: true; the input reads as it did. -/
def frameOfSpec : ChangeSpec := { name := "frameOf", fn := fun _ => fun
  | [d1, d2] => { results := [.lit (.bool true)], args := [d1, d2] }
  | _ => none }
def frameOfRow : OpenClaim := { program := "ytpakphgeichopaadoor", sum := "17d8151449ee3cec9146ec7bf448d600d942c1444ba111af8fb185eba9a9d697", func := "vesper/vesperlaw10.FrameOf", spec := "frameOf", inPlace := ["internal/abi.NoEscape"], named := ["vesper/pixie.shown"], apart := false, laid := [("vesper/pixie.shown", laid_vesper_pixie_shown)] }
def FrameOfSaid : Prop := frameOfRow.holds Tryd.pinned (OpenSpec.ofChange frameOfSpec)

/-- ITS FALSE NEIGHBOUR: 'it returns false'. Refute it at one input. -/
def frameOfWrong : ChangeSpec := { name := "frameOf", fn := fun _ => fun
  | [d1, d2] => { results := [.lit (.bool false)], args := [d1, d2] }
  | _ => none }
def FrameOfWrongFalsely : Prop := frameOfRow.holds Tryd.pinned (OpenSpec.ofChange frameOfWrong)

/-- 'vesperlaw10.FrameRuns': WHATEVER THE INPUT: true; the input reads as it did. -/
def frameRunsSpec : ChangeSpec := { name := "frameRuns", fn := fun _ => fun
  | [d1, d2, d3] => { results := [.lit (.bool true)], args := [d1, d2, d3] }
  | _ => none }
def frameRunsRow : OpenClaim := { program := "ytpakphgeichopaadoor", sum := "17d8151449ee3cec9146ec7bf448d600d942c1444ba111af8fb185eba9a9d697", func := "vesper/vesperlaw10.FrameRuns", spec := "frameRuns", inPlace := ["internal/abi.NoEscape"], named := ["vesper/pixie.shown"], apart := false, laid := [("vesper/pixie.shown", laid_vesper_pixie_shown)] }
def FrameRunsSaid : Prop := frameRunsRow.holds Tryd.pinned (OpenSpec.ofChange frameRunsSpec)

/-- ITS FALSE NEIGHBOUR: 'it returns false'. Refute it at one input. -/
def frameRunsWrong : ChangeSpec := { name := "frameRuns", fn := fun _ => fun
  | [d1, d2, d3] => { results := [.lit (.bool false)], args := [d1, d2, d3] }
  | _ => none }
def FrameRunsWrongFalsely : Prop := frameRunsRow.holds Tryd.pinned (OpenSpec.ofChange frameRunsWrong)

/-- 'vesperlaw10.FrameShows': WHATEVER THE INPUT: true; the input reads as it did. -/
def frameShowsSpec : ChangeSpec := { name := "frameShows", fn := fun _ => fun
  | [d] => { results := [.lit (.bool true)], args := [d] }
  | _ => none }
def frameShowsRow : OpenClaim := { program := "ytpakphgeichopaadoor", sum := "17d8151449ee3cec9146ec7bf448d600d942c1444ba111af8fb185eba9a9d697", func := "vesper/vesperlaw10.FrameShows", spec := "frameShows", inPlace := ["internal/abi.NoEscape"], named := ["vesper/pixie.shown"], apart := false, laid := [("vesper/pixie.shown", laid_vesper_pixie_shown)] }
def FrameShowsSaid : Prop := frameShowsRow.holds Tryd.pinned (OpenSpec.ofChange frameShowsSpec)

/-- ITS FALSE NEIGHBOUR: 'it returns false'. Refute it at one input. -/
def frameShowsWrong : ChangeSpec := { name := "frameShows", fn := fun _ => fun
  | [d] => { results := [.lit (.bool false)], args := [d] }
  | _ => none }
def FrameShowsWrongFalsely : Prop := frameShowsRow.holds Tryd.pinned (OpenSpec.ofChange frameShowsWrong)

/-- 'vesperlaw10.FrameParts': WHATEVER THE INPUT: true; the input reads as it did. -/
def framePartsSpec : ChangeSpec := { name := "frameParts", fn := fun _ => fun
  | [d1, d2, d3] => { results := [.lit (.bool true)], args := [d1, d2, d3] }
  | _ => none }
def framePartsRow : OpenClaim := { program := "ytpakphgeichopaadoor", sum := "17d8151449ee3cec9146ec7bf448d600d942c1444ba111af8fb185eba9a9d697", func := "vesper/vesperlaw10.FrameParts", spec := "frameParts", inPlace := ["internal/abi.NoEscape"], named := ["vesper/pixie.shown"], apart := false, laid := [("vesper/pixie.shown", laid_vesper_pixie_shown)] }
def FramePartsSaid : Prop := framePartsRow.holds Tryd.pinned (OpenSpec.ofChange framePartsSpec)

/-- ITS FALSE NEIGHBOUR: 'it returns false'. Refute it at one input. -/
def framePartsWrong : ChangeSpec := { name := "frameParts", fn := fun _ => fun
  | [d1, d2, d3] => { results := [.lit (.bool false)], args := [d1, d2, d3] }
  | _ => none }
def FramePartsWrongFalsely : Prop := framePartsRow.holds Tryd.pinned (OpenSpec.ofChange framePartsWrong)

/-- 'vesperlaw10.FramePages': WHATEVER THE INPUT: true; the input reads as it did. -/
def framePagesSpec : ChangeSpec := { name := "framePages", fn := fun _ => fun
  | [d1, d2, d3] => { results := [.lit (.bool true)], args := [d1, d2, d3] }
  | _ => none }
def framePagesRow : OpenClaim := { program := "ytpakphgeichopaadoor", sum := "17d8151449ee3cec9146ec7bf448d600d942c1444ba111af8fb185eba9a9d697", func := "vesper/vesperlaw10.FramePages", spec := "framePages", inPlace := ["internal/abi.NoEscape"], named := ["vesper/pixie.shown"], apart := false, laid := [("vesper/pixie.shown", laid_vesper_pixie_shown)] }
def FramePagesSaid : Prop := framePagesRow.holds Tryd.pinned (OpenSpec.ofChange framePagesSpec)

/-- ITS FALSE NEIGHBOUR: 'it returns false'. Refute it at one input. -/
def framePagesWrong : ChangeSpec := { name := "framePages", fn := fun _ => fun
  | [d1, d2, d3] => { results := [.lit (.bool false)], args := [d1, d2, d3] }
  | _ => none }
def FramePagesWrongFalsely : Prop := framePagesRow.holds Tryd.pinned (OpenSpec.ofChange framePagesWrong)

/-- 'vesperlaw10.FrameReads': WHATEVER THE INPUT: true; the input reads as it did. -/
def frameReadsSpec : ChangeSpec := { name := "frameReads", fn := fun _ => fun
  | [d] => { results := [.lit (.bool true)], args := [d] }
  | _ => none }
def frameReadsRow : OpenClaim := { program := "ytpakphgeichopaadoor", sum := "17d8151449ee3cec9146ec7bf448d600d942c1444ba111af8fb185eba9a9d697", func := "vesper/vesperlaw10.FrameReads", spec := "frameReads", inPlace := ["internal/bytealg.IndexByteString", "internal/bytealg.IndexString", "internal/abi.NoEscape"], named := ["internal/bytealg.MaxLen", "vesper/pixie.shown"], apart := false, laid := [("vesper/pixie.shown", laid_vesper_pixie_shown)] }
def FrameReadsSaid : Prop := frameReadsRow.holds Tryd.pinned (OpenSpec.ofChange frameReadsSpec)

/-- ITS FALSE NEIGHBOUR: 'it returns false'. Refute it at one input. -/
def frameReadsWrong : ChangeSpec := { name := "frameReads", fn := fun _ => fun
  | [d] => { results := [.lit (.bool false)], args := [d] }
  | _ => none }
def FrameReadsWrongFalsely : Prop := frameReadsRow.holds Tryd.pinned (OpenSpec.ofChange frameReadsWrong)

/-- 'vesperlaw10.FrameBack': WHATEVER THE INPUT: true; the input reads as it did. -/
def frameBackSpec : ChangeSpec := { name := "frameBack", fn := fun _ => fun
  | [d1, d2] => { results := [.lit (.bool true)], args := [d1, d2] }
  | _ => none }
def frameBackRow : OpenClaim := { program := "ytpakphgeichopaadoor", sum := "17d8151449ee3cec9146ec7bf448d600d942c1444ba111af8fb185eba9a9d697", func := "vesper/vesperlaw10.FrameBack", spec := "frameBack", inPlace := ["internal/abi.NoEscape", "internal/bytealg.IndexByteString", "internal/bytealg.IndexString"], named := ["internal/bytealg.MaxLen", "vesper/pixie.shown"], apart := false, laid := [("vesper/pixie.shown", laid_vesper_pixie_shown)] }
def FrameBackSaid : Prop := frameBackRow.holds Tryd.pinned (OpenSpec.ofChange frameBackSpec)

/-- ITS FALSE NEIGHBOUR: 'it returns false'. Refute it at one input. -/
def frameBackWrong : ChangeSpec := { name := "frameBack", fn := fun _ => fun
  | [d1, d2] => { results := [.lit (.bool false)], args := [d1, d2] }
  | _ => none }
def FrameBackWrongFalsely : Prop := frameBackRow.holds Tryd.pinned (OpenSpec.ofChange frameBackWrong)

/- THE SECOND FORM. 'bulk': how many values and letters a reading holds, each counted each time it is reached (what is shared counts as often as it is met; a slice's spare places count too). A statement '..UptoSaid' is the law's where the arguments, and the package variables that the reading takes, are together of bulk at most 1048576: NARROWER than '..Said'. Prove '..Said' where nothing that the law and all that it calls make is longer than what came in: it says more and counts as full. Else prove '..UptoSaid'. A law counts once. -/
mutual
def uptoBulk {H : Type} : DataW H → Nat
  | .lit (.string bytes) => bytes.length + 1
  | .lit _ => 1
  | .nil => 1
  | .ptr d => uptoBulk d + 1
  | .slice elems spare => uptoBulkAll elems + uptoBulkAll spare + 1
  | .agg parts => uptoBulkAll parts + 1
  | .iface _ d => uptoBulk d + 1
  | .map entries => uptoBulkEntries entries + 1
  | .held _ => 1
def uptoBulkAll {H : Type} : List (DataW H) → Nat
  | [] => 0
  | d :: r => uptoBulk d + uptoBulkAll r
def uptoBulkEntries {H : Type} : List (Lit × DataW H) → Nat
  | [] => 0
  | x :: r => uptoBulkEntry x + uptoBulkEntries r
def uptoBulkEntry {H : Type} : Lit × DataW H → Nat
  | (.string bytes, d) => bytes.length + uptoBulk d + 1
  | (_, d) => uptoBulk d + 1
 end
def uptoSmall : (H : Type) → List (DataW H) → Bool := fun _ ds => decide (uptoBulkAll ds ≤ 1048576)
def OpenSpec.upto (s : _root_.Go.ChangeSpec) : _root_.Go.OpenSpec := { _root_.Go.OpenSpec.ofChange s with cond := some uptoSmall }

/-- 'vesperlaw10.FrameNames', WHERE WHAT IT READS IS OF BULK AT MOST 1048576: true; the input reads as it did. -/
def frameNamesUptoRow : OpenClaim := { program := "ytpakphgeichopaadoor", sum := "17d8151449ee3cec9146ec7bf448d600d942c1444ba111af8fb185eba9a9d697", func := "vesper/vesperlaw10.FrameNames", spec := "frameNames", inPlace := ["internal/abi.NoEscape"], named := ["vesper/pixie.shown"], apart := false, laid := [("vesper/pixie.shown", laid_vesper_pixie_shown)], narrowed := true }
def FrameNamesUptoSaid : Prop := frameNamesUptoRow.holds Tryd.pinned (OpenSpec.upto frameNamesSpec)

/-- 'vesperlaw10.FrameOf', WHERE WHAT IT READS IS OF BULK AT MOST 1048576: true; the input reads as it did. -/
def frameOfUptoRow : OpenClaim := { program := "ytpakphgeichopaadoor", sum := "17d8151449ee3cec9146ec7bf448d600d942c1444ba111af8fb185eba9a9d697", func := "vesper/vesperlaw10.FrameOf", spec := "frameOf", inPlace := ["internal/abi.NoEscape"], named := ["vesper/pixie.shown"], apart := false, laid := [("vesper/pixie.shown", laid_vesper_pixie_shown)], narrowed := true }
def FrameOfUptoSaid : Prop := frameOfUptoRow.holds Tryd.pinned (OpenSpec.upto frameOfSpec)

/-- 'vesperlaw10.FrameRuns', WHERE WHAT IT READS IS OF BULK AT MOST 1048576: true; the input reads as it did. -/
def frameRunsUptoRow : OpenClaim := { program := "ytpakphgeichopaadoor", sum := "17d8151449ee3cec9146ec7bf448d600d942c1444ba111af8fb185eba9a9d697", func := "vesper/vesperlaw10.FrameRuns", spec := "frameRuns", inPlace := ["internal/abi.NoEscape"], named := ["vesper/pixie.shown"], apart := false, laid := [("vesper/pixie.shown", laid_vesper_pixie_shown)], narrowed := true }
def FrameRunsUptoSaid : Prop := frameRunsUptoRow.holds Tryd.pinned (OpenSpec.upto frameRunsSpec)

/-- 'vesperlaw10.FrameShows', WHERE WHAT IT READS IS OF BULK AT MOST 1048576: true; the input reads as it did. -/
def frameShowsUptoRow : OpenClaim := { program := "ytpakphgeichopaadoor", sum := "17d8151449ee3cec9146ec7bf448d600d942c1444ba111af8fb185eba9a9d697", func := "vesper/vesperlaw10.FrameShows", spec := "frameShows", inPlace := ["internal/abi.NoEscape"], named := ["vesper/pixie.shown"], apart := false, laid := [("vesper/pixie.shown", laid_vesper_pixie_shown)], narrowed := true }
def FrameShowsUptoSaid : Prop := frameShowsUptoRow.holds Tryd.pinned (OpenSpec.upto frameShowsSpec)

/-- 'vesperlaw10.FrameParts', WHERE WHAT IT READS IS OF BULK AT MOST 1048576: true; the input reads as it did. -/
def framePartsUptoRow : OpenClaim := { program := "ytpakphgeichopaadoor", sum := "17d8151449ee3cec9146ec7bf448d600d942c1444ba111af8fb185eba9a9d697", func := "vesper/vesperlaw10.FrameParts", spec := "frameParts", inPlace := ["internal/abi.NoEscape"], named := ["vesper/pixie.shown"], apart := false, laid := [("vesper/pixie.shown", laid_vesper_pixie_shown)], narrowed := true }
def FramePartsUptoSaid : Prop := framePartsUptoRow.holds Tryd.pinned (OpenSpec.upto framePartsSpec)

/-- 'vesperlaw10.FramePages', WHERE WHAT IT READS IS OF BULK AT MOST 1048576: true; the input reads as it did. -/
def framePagesUptoRow : OpenClaim := { program := "ytpakphgeichopaadoor", sum := "17d8151449ee3cec9146ec7bf448d600d942c1444ba111af8fb185eba9a9d697", func := "vesper/vesperlaw10.FramePages", spec := "framePages", inPlace := ["internal/abi.NoEscape"], named := ["vesper/pixie.shown"], apart := false, laid := [("vesper/pixie.shown", laid_vesper_pixie_shown)], narrowed := true }
def FramePagesUptoSaid : Prop := framePagesUptoRow.holds Tryd.pinned (OpenSpec.upto framePagesSpec)

/-- 'vesperlaw10.FrameReads', WHERE WHAT IT READS IS OF BULK AT MOST 1048576: true; the input reads as it did. -/
def frameReadsUptoRow : OpenClaim := { program := "ytpakphgeichopaadoor", sum := "17d8151449ee3cec9146ec7bf448d600d942c1444ba111af8fb185eba9a9d697", func := "vesper/vesperlaw10.FrameReads", spec := "frameReads", inPlace := ["internal/bytealg.IndexByteString", "internal/bytealg.IndexString", "internal/abi.NoEscape"], named := ["internal/bytealg.MaxLen", "vesper/pixie.shown"], apart := false, laid := [("vesper/pixie.shown", laid_vesper_pixie_shown)], narrowed := true }
def FrameReadsUptoSaid : Prop := frameReadsUptoRow.holds Tryd.pinned (OpenSpec.upto frameReadsSpec)

/-- 'vesperlaw10.FrameBack', WHERE WHAT IT READS IS OF BULK AT MOST 1048576: true; the input reads as it did. -/
def frameBackUptoRow : OpenClaim := { program := "ytpakphgeichopaadoor", sum := "17d8151449ee3cec9146ec7bf448d600d942c1444ba111af8fb185eba9a9d697", func := "vesper/vesperlaw10.FrameBack", spec := "frameBack", inPlace := ["internal/abi.NoEscape", "internal/bytealg.IndexByteString", "internal/bytealg.IndexString"], named := ["internal/bytealg.MaxLen", "vesper/pixie.shown"], apart := false, laid := [("vesper/pixie.shown", laid_vesper_pixie_shown)], narrowed := true }
def FrameBackUptoSaid : Prop := frameBackUptoRow.holds Tryd.pinned (OpenSpec.upto frameBackSpec)

end Rows
end Go.Proofs.YtpakphgeichopaaDoor
