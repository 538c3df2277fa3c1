/-
  NARROWER THAN 'FOR EVERY INPUT', by the rows' own cells (each row's printed sentence says how): OpsThere: laid · OpsLines: laid · OpsExact: laid · OpsProgram: laid.
  DERIVED. THE GIVEN ROWS OF THIS SEAT. 4 by the template 'for every input the law returns true; each argument reads behind the call as it read before'; 0 by the template 'total and deterministic' (their statements: YthhogfnghaikaaaDoorTotals.lean).
  GIVEN WITH THE SEED: the statements are not yours to turn. If you find one false, say at which input.
  Laid BY PROGRAM, IN A SANDBOX (cutbox-rows.mjs): the forced cells as the released guide's own fill.sh prints them over the translation 6134c7e55eaed4d7… (all of the seat's roots in one cut). By AI agents, Wed Nov 11 2026. No macro, syntax, notation, axiom, sorry.
-/
import Derived.Test.YthhogfnghaikaaaDoorChecked
import GoSem.PinnedTables
import GoSem.Claim
import GoSem.ClaimJoined
import GoSem.ClaimMapViews
import Derived.JoinedTies
import Derived.KernelRfl
namespace Go.Proofs.YthhogfnghaikaaaDoor
/- THE CELL 'sum', in the pinned program and in every row, IS THE sha256 OF THE DUMP (.gsa) THAT YthhogfnghaikaaaDoorProg.lean LOADS. Nothing in Lean hashes anything: it is a label: what it is worth is what the hold of that sum in a sandbox is worth. -/
noncomputable def Tryd.pinned : Pinned := { name := "ythhogfnghaikaaadoor", sum := "6134c7e55eaed4d7057286d47faa0721fcc54bbd4667b8c72bd74263173bf94b", checked := Tryd.checked }
namespace Rows
def none {H : Type} : Left H := { results := [], args := [] }

/- WHAT THE LISTED PACKAGE-LEVEL VARIABLES READ AS WHEN THE CALL BEGINS. Each datum BY PROGRAM (the guide's laid-datum.mjs) off the statement by which the dump's own 'gosem.cut.vars' lays the variable. In a bare row this is a premise. The card (YthhogfnghaikaaaDoorCards.lean) ties it to the program's text. -/
def laid_unicode_utf8_acceptRanges {H : Type} : DataW H := .agg [.agg [.lit (.int .u8 128), .lit (.int .u8 191)], .agg [.lit (.int .u8 160), .lit (.int .u8 191)], .agg [.lit (.int .u8 128), .lit (.int .u8 159)], .agg [.lit (.int .u8 144), .lit (.int .u8 191)], .agg [.lit (.int .u8 128), .lit (.int .u8 143)], .agg [.lit (.int .u8 0), .lit (.int .u8 0)], .agg [.lit (.int .u8 0), .lit (.int .u8 0)], .agg [.lit (.int .u8 0), .lit (.int .u8 0)], .agg [.lit (.int .u8 0), .lit (.int .u8 0)], .agg [.lit (.int .u8 0), .lit (.int .u8 0)], .agg [.lit (.int .u8 0), .lit (.int .u8 0)], .agg [.lit (.int .u8 0), .lit (.int .u8 0)], .agg [.lit (.int .u8 0), .lit (.int .u8 0)], .agg [.lit (.int .u8 0), .lit (.int .u8 0)], .agg [.lit (.int .u8 0), .lit (.int .u8 0)], .agg [.lit (.int .u8 0), .lit (.int .u8 0)]]
/-- One of Go's own tables, pinned by name: the form's constant. -/
def laid_unicode_utf8_first : DataW Unit := Go.Pinned.utf8First

/-- 'vesperlaw16.OpsThere': WHATEVER THE INPUT: true; the input reads as it did. -/
def opsThereSpec : ChangeSpec := { name := "opsThere", fn := fun _ => fun
  | [d] => { results := [.lit (.bool true)], args := [d] }
  | _ => none }
def opsThereRow : OpenClaim := { program := "ythhogfnghaikaaadoor", sum := "6134c7e55eaed4d7057286d47faa0721fcc54bbd4667b8c72bd74263173bf94b", func := "vesper/vesperlaw16.OpsThere", spec := "opsThere", inPlace := ["internal/bytealg.CountString", "internal/bytealg.IndexByteString", "internal/bytealg.IndexString"], unfollowed := true, recurses := true, named := ["unicode/utf8.first", "unicode/utf8.acceptRanges", "internal/bytealg.MaxLen"], apart := false, laid := [("unicode/utf8.acceptRanges", laid_unicode_utf8_acceptRanges), ("unicode/utf8.first", laid_unicode_utf8_first)] }
def OpsThereSaid : Prop := opsThereRow.holds Tryd.pinned (OpenSpec.ofChange opsThereSpec)

/-- ITS FALSE NEIGHBOUR: 'it returns false'. Refute it at one input. -/
def opsThereWrong : ChangeSpec := { name := "opsThere", fn := fun _ => fun
  | [d] => { results := [.lit (.bool false)], args := [d] }
  | _ => none }
def OpsThereWrongFalsely : Prop := opsThereRow.holds Tryd.pinned (OpenSpec.ofChange opsThereWrong)

/-- 'vesperlaw16.OpsLines': WHATEVER THE INPUT: true; the input reads as it did. -/
def opsLinesSpec : ChangeSpec := { name := "opsLines", fn := fun _ => fun
  | [d] => { results := [.lit (.bool true)], args := [d] }
  | _ => none }
def opsLinesRow : OpenClaim := { program := "ythhogfnghaikaaadoor", sum := "6134c7e55eaed4d7057286d47faa0721fcc54bbd4667b8c72bd74263173bf94b", func := "vesper/vesperlaw16.OpsLines", spec := "opsLines", inPlace := ["internal/bytealg.CountString", "internal/bytealg.IndexByteString", "internal/bytealg.IndexString"], unfollowed := true, recurses := true, named := ["unicode/utf8.first", "unicode/utf8.acceptRanges", "internal/bytealg.MaxLen"], apart := false, laid := [("unicode/utf8.acceptRanges", laid_unicode_utf8_acceptRanges), ("unicode/utf8.first", laid_unicode_utf8_first)] }
def OpsLinesSaid : Prop := opsLinesRow.holds Tryd.pinned (OpenSpec.ofChange opsLinesSpec)

/-- ITS FALSE NEIGHBOUR: 'it returns false'. Refute it at one input. -/
def opsLinesWrong : ChangeSpec := { name := "opsLines", fn := fun _ => fun
  | [d] => { results := [.lit (.bool false)], args := [d] }
  | _ => none }
def OpsLinesWrongFalsely : Prop := opsLinesRow.holds Tryd.pinned (OpenSpec.ofChange opsLinesWrong)

/-- 'vesperlaw16.OpsExact': WHATEVER THE INPUT: true; the input reads as it did. -/
def opsExactSpec : ChangeSpec := { name := "opsExact", fn := fun _ => fun
  | [d] => { results := [.lit (.bool true)], args := [d] }
  | _ => none }
def opsExactRow : OpenClaim := { program := "ythhogfnghaikaaadoor", sum := "6134c7e55eaed4d7057286d47faa0721fcc54bbd4667b8c72bd74263173bf94b", func := "vesper/vesperlaw16.OpsExact", spec := "opsExact", inPlace := ["internal/bytealg.CountString", "internal/bytealg.IndexByteString", "internal/bytealg.IndexString", "internal/abi.NoEscape", "internal/bytealg.MakeNoZero"], unfollowed := true, recurses := true, named := ["unicode/utf8.first", "unicode/utf8.acceptRanges", "internal/bytealg.MaxLen"], apart := false, laid := [("unicode/utf8.acceptRanges", laid_unicode_utf8_acceptRanges), ("unicode/utf8.first", laid_unicode_utf8_first)] }
def OpsExactSaid : Prop := opsExactRow.holds Tryd.pinned (OpenSpec.ofChange opsExactSpec)

/-- ITS FALSE NEIGHBOUR: 'it returns false'. Refute it at one input. -/
def opsExactWrong : ChangeSpec := { name := "opsExact", fn := fun _ => fun
  | [d] => { results := [.lit (.bool false)], args := [d] }
  | _ => none }
def OpsExactWrongFalsely : Prop := opsExactRow.holds Tryd.pinned (OpenSpec.ofChange opsExactWrong)

/-- 'vesperlaw16.OpsProgram': WHATEVER THE INPUT: true; the input reads as it did. -/
def opsProgramSpec : ChangeSpec := { name := "opsProgram", fn := fun _ => fun
  | [d1, d2, d3] => { results := [.lit (.bool true)], args := [d1, d2, d3] }
  | _ => none }
def opsProgramRow : OpenClaim := { program := "ythhogfnghaikaaadoor", sum := "6134c7e55eaed4d7057286d47faa0721fcc54bbd4667b8c72bd74263173bf94b", func := "vesper/vesperlaw16.OpsProgram", spec := "opsProgram", inPlace := ["internal/bytealg.CountString", "internal/bytealg.IndexByteString", "internal/bytealg.IndexString", "internal/abi.NoEscape", "internal/bytealg.MakeNoZero"], unfollowed := true, recurses := true, named := ["unicode/utf8.first", "unicode/utf8.acceptRanges", "internal/bytealg.MaxLen"], apart := false, laid := [("unicode/utf8.acceptRanges", laid_unicode_utf8_acceptRanges), ("unicode/utf8.first", laid_unicode_utf8_first)] }
def OpsProgramSaid : Prop := opsProgramRow.holds Tryd.pinned (OpenSpec.ofChange opsProgramSpec)

/-- ITS FALSE NEIGHBOUR: 'it returns false'. Refute it at one input. -/
def opsProgramWrong : ChangeSpec := { name := "opsProgram", fn := fun _ => fun
  | [d1, d2, d3] => { results := [.lit (.bool false)], args := [d1, d2, d3] }
  | _ => none }
def OpsProgramWrongFalsely : Prop := opsProgramRow.holds Tryd.pinned (OpenSpec.ofChange opsProgramWrong)

/- THE SECOND FORM. 'bulk': how many values and letters a reading holds, each counted each time it is reached (what is shared counts as often as it is met; a slice's spare places count too). A statement '..UptoSaid' is the law's where the arguments, and the package variables that the reading takes, are together of bulk at most 1048576: NARROWER than '..Said'. Prove '..Said' where nothing that the law and all that it calls make is longer than what came in: it says more and counts as full. Else prove '..UptoSaid'. A law counts once. -/
mutual
def uptoBulk {H : Type} : DataW H → Nat
  | .lit (.string bytes) => bytes.length + 1
  | .lit _ => 1
  | .nil => 1
  | .ptr d => uptoBulk d + 1
  | .slice elems spare => uptoBulkAll elems + uptoBulkAll spare + 1
  | .agg parts => uptoBulkAll parts + 1
  | .iface _ d => uptoBulk d + 1
  | .map entries => uptoBulkEntries entries + 1
  | .held _ => 1
def uptoBulkAll {H : Type} : List (DataW H) → Nat
  | [] => 0
  | d :: r => uptoBulk d + uptoBulkAll r
def uptoBulkEntries {H : Type} : List (Lit × DataW H) → Nat
  | [] => 0
  | x :: r => uptoBulkEntry x + uptoBulkEntries r
def uptoBulkEntry {H : Type} : Lit × DataW H → Nat
  | (.string bytes, d) => bytes.length + uptoBulk d + 1
  | (_, d) => uptoBulk d + 1
 end
def uptoSmall : (H : Type) → List (DataW H) → Bool := fun _ ds => decide (uptoBulkAll ds ≤ 1048576)
def OpenSpec.upto (s : _root_.Go.ChangeSpec) : _root_.Go.OpenSpec := { _root_.Go.OpenSpec.ofChange s with cond := some uptoSmall }

/-- 'vesperlaw16.OpsThere', WHERE WHAT IT READS IS OF BULK AT MOST 1048576: true; the input reads as it did. -/
def opsThereUptoRow : OpenClaim := { program := "ythhogfnghaikaaadoor", sum := "6134c7e55eaed4d7057286d47faa0721fcc54bbd4667b8c72bd74263173bf94b", func := "vesper/vesperlaw16.OpsThere", spec := "opsThere", inPlace := ["internal/bytealg.CountString", "internal/bytealg.IndexByteString", "internal/bytealg.IndexString"], unfollowed := true, recurses := true, named := ["unicode/utf8.first", "unicode/utf8.acceptRanges", "internal/bytealg.MaxLen"], apart := false, laid := [("unicode/utf8.acceptRanges", laid_unicode_utf8_acceptRanges), ("unicode/utf8.first", laid_unicode_utf8_first)], narrowed := true }
def OpsThereUptoSaid : Prop := opsThereUptoRow.holds Tryd.pinned (OpenSpec.upto opsThereSpec)

/-- 'vesperlaw16.OpsLines', WHERE WHAT IT READS IS OF BULK AT MOST 1048576: true; the input reads as it did. -/
def opsLinesUptoRow : OpenClaim := { program := "ythhogfnghaikaaadoor", sum := "6134c7e55eaed4d7057286d47faa0721fcc54bbd4667b8c72bd74263173bf94b", func := "vesper/vesperlaw16.OpsLines", spec := "opsLines", inPlace := ["internal/bytealg.CountString", "internal/bytealg.IndexByteString", "internal/bytealg.IndexString"], unfollowed := true, recurses := true, named := ["unicode/utf8.first", "unicode/utf8.acceptRanges", "internal/bytealg.MaxLen"], apart := false, laid := [("unicode/utf8.acceptRanges", laid_unicode_utf8_acceptRanges), ("unicode/utf8.first", laid_unicode_utf8_first)], narrowed := true }
def OpsLinesUptoSaid : Prop := opsLinesUptoRow.holds Tryd.pinned (OpenSpec.upto opsLinesSpec)

/-- 'vesperlaw16.OpsExact', WHERE WHAT IT READS IS OF BULK AT MOST 1048576: true; the input reads as it did. -/
def opsExactUptoRow : OpenClaim := { program := "ythhogfnghaikaaadoor", sum := "6134c7e55eaed4d7057286d47faa0721fcc54bbd4667b8c72bd74263173bf94b", func := "vesper/vesperlaw16.OpsExact", spec := "opsExact", inPlace := ["internal/bytealg.CountString", "internal/bytealg.IndexByteString", "internal/bytealg.IndexString", "internal/abi.NoEscape", "internal/bytealg.MakeNoZero"], unfollowed := true, recurses := true, named := ["unicode/utf8.first", "unicode/utf8.acceptRanges", "internal/bytealg.MaxLen"], apart := false, laid := [("unicode/utf8.acceptRanges", laid_unicode_utf8_acceptRanges), ("unicode/utf8.first", laid_unicode_utf8_first)], narrowed := true }
def OpsExactUptoSaid : Prop := opsExactUptoRow.holds Tryd.pinned (OpenSpec.upto opsExactSpec)

/-- 'vesperlaw16.OpsProgram', WHERE WHAT IT READS IS OF BULK AT MOST 1048576: true; the input reads as it did. -/
def opsProgramUptoRow : OpenClaim := { program := "ythhogfnghaikaaadoor", sum := "6134c7e55eaed4d7057286d47faa0721fcc54bbd4667b8c72bd74263173bf94b", func := "vesper/vesperlaw16.OpsProgram", spec := "opsProgram", inPlace := ["internal/bytealg.CountString", "internal/bytealg.IndexByteString", "internal/bytealg.IndexString", "internal/abi.NoEscape", "internal/bytealg.MakeNoZero"], unfollowed := true, recurses := true, named := ["unicode/utf8.first", "unicode/utf8.acceptRanges", "internal/bytealg.MaxLen"], apart := false, laid := [("unicode/utf8.acceptRanges", laid_unicode_utf8_acceptRanges), ("unicode/utf8.first", laid_unicode_utf8_first)], narrowed := true }
def OpsProgramUptoSaid : Prop := opsProgramUptoRow.holds Tryd.pinned (OpenSpec.upto opsProgramSpec)

end Rows
end Go.Proofs.YthhogfnghaikaaaDoor
