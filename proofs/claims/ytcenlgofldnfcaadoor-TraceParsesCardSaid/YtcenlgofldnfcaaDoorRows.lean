/-
  NARROWER THAN 'FOR EVERY INPUT', by the rows' own cells (each row's printed sentence says how): TraceNames: laid · TracePrints: laid · TracePacks: laid · TraceUnpacks: laid · TraceApart: laid · TraceParses: laid · TraceBack: laid.
  DERIVED. THE GIVEN ROWS OF THIS SEAT. 7 by the template 'for every input the law returns true; each argument reads behind the call as it read before'; 0 by the template 'total and deterministic' (their statements: YtcenlgofldnfcaaDoorTotals.lean).
  GIVEN WITH THE SEED: the statements are not yours to turn. If you find one false, say at which input.
  Laid BY PROGRAM, IN A SANDBOX (cutbox-rows.mjs): the forced cells as the released guide's own fill.sh prints them over the translation 951c1576235b2d2f… (all of the seat's roots in one cut). By AI agents, Wed Nov 11 2026. No macro, syntax, notation, axiom, sorry.
-/
import Derived.Test.YtcenlgofldnfcaaDoorChecked
import GoSem.PinnedTables
import GoSem.Claim
import GoSem.ClaimJoined
import GoSem.ClaimMapViews
import Derived.JoinedTies
import Derived.KernelRfl
namespace Go.Proofs.YtcenlgofldnfcaaDoor
/- THE CELL 'sum', in the pinned program and in every row, IS THE sha256 OF THE DUMP (.gsa) THAT YtcenlgofldnfcaaDoorProg.lean LOADS. Nothing in Lean hashes anything: it is a label: what it is worth is what the hold of that sum in a sandbox is worth. -/
noncomputable def Tryd.pinned : Pinned := { name := "ytcenlgofldnfcaadoor", sum := "951c1576235b2d2f5624b79deac07596e75066c8699da3780f6a9cdd40884447", checked := Tryd.checked }
namespace Rows
def none {H : Type} : Left H := { results := [], args := [] }

/- WHAT THE LISTED PACKAGE-LEVEL VARIABLES READ AS WHEN THE CALL BEGINS. Each datum BY PROGRAM (the guide's laid-datum.mjs) off the statement by which the dump's own 'gosem.cut.vars' lays the variable. In a bare row this is a premise. The card (YtcenlgofldnfcaaDoorCards.lean) ties it to the program's text. -/
def laid_vesper_trace_modes {H : Type} : DataW H := .agg [.lit (.string []), .lit (.string [112, 97, 117, 115, 101]), .lit (.string [114, 101, 115, 101, 116]), .lit (.string [108, 111, 97, 100])]
def laid_unicode_utf8_acceptRanges {H : Type} : DataW H := .agg [.agg [.lit (.int .u8 128), .lit (.int .u8 191)], .agg [.lit (.int .u8 160), .lit (.int .u8 191)], .agg [.lit (.int .u8 128), .lit (.int .u8 159)], .agg [.lit (.int .u8 144), .lit (.int .u8 191)], .agg [.lit (.int .u8 128), .lit (.int .u8 143)], .agg [.lit (.int .u8 0), .lit (.int .u8 0)], .agg [.lit (.int .u8 0), .lit (.int .u8 0)], .agg [.lit (.int .u8 0), .lit (.int .u8 0)], .agg [.lit (.int .u8 0), .lit (.int .u8 0)], .agg [.lit (.int .u8 0), .lit (.int .u8 0)], .agg [.lit (.int .u8 0), .lit (.int .u8 0)], .agg [.lit (.int .u8 0), .lit (.int .u8 0)], .agg [.lit (.int .u8 0), .lit (.int .u8 0)], .agg [.lit (.int .u8 0), .lit (.int .u8 0)], .agg [.lit (.int .u8 0), .lit (.int .u8 0)], .agg [.lit (.int .u8 0), .lit (.int .u8 0)]]
/-- One of Go's own tables, pinned by name: the form's constant. -/
def laid_unicode_utf8_first : DataW Unit := Go.Pinned.utf8First

/-- 'vesperlaw09.TraceNames': WHATEVER THE INPUT: true; the input reads as it did. -/
def traceNamesSpec : ChangeSpec := { name := "traceNames", fn := fun _ => fun
  | [] => { results := [.lit (.bool true)], args := [] }
  | _ => none }
def traceNamesRow : OpenClaim := { program := "ytcenlgofldnfcaadoor", sum := "951c1576235b2d2f5624b79deac07596e75066c8699da3780f6a9cdd40884447", func := "vesper/vesperlaw09.TraceNames", spec := "traceNames", inPlace := ["internal/abi.NoEscape", "internal/bytealg.MakeNoZero"], unfollowed := true, recurses := true, named := ["vesper/trace.modes"], apart := false, laid := [("vesper/trace.modes", laid_vesper_trace_modes)] }
def TraceNamesSaid : Prop := traceNamesRow.holds Tryd.pinned (OpenSpec.ofChange traceNamesSpec)

/-- ITS FALSE NEIGHBOUR: 'it returns false'. Refute it at one input. -/
def traceNamesWrong : ChangeSpec := { name := "traceNames", fn := fun _ => fun
  | [] => { results := [.lit (.bool false)], args := [] }
  | _ => none }
def TraceNamesWrongFalsely : Prop := traceNamesRow.holds Tryd.pinned (OpenSpec.ofChange traceNamesWrong)

/-- 'vesperlaw09.TracePrints': WHATEVER THE INPUT: true; the input reads as it did. -/
def tracePrintsSpec : ChangeSpec := { name := "tracePrints", fn := fun _ => fun
  | [d] => { results := [.lit (.bool true)], args := [d] }
  | _ => none }
def tracePrintsRow : OpenClaim := { program := "ytcenlgofldnfcaadoor", sum := "951c1576235b2d2f5624b79deac07596e75066c8699da3780f6a9cdd40884447", func := "vesper/vesperlaw09.TracePrints", spec := "tracePrints", inPlace := ["internal/abi.NoEscape", "internal/bytealg.MakeNoZero"], unfollowed := true, recurses := true, named := ["vesper/trace.modes"], apart := false, laid := [("vesper/trace.modes", laid_vesper_trace_modes)] }
def TracePrintsSaid : Prop := tracePrintsRow.holds Tryd.pinned (OpenSpec.ofChange tracePrintsSpec)

/-- ITS FALSE NEIGHBOUR: 'it returns false'. Refute it at one input. -/
def tracePrintsWrong : ChangeSpec := { name := "tracePrints", fn := fun _ => fun
  | [d] => { results := [.lit (.bool false)], args := [d] }
  | _ => none }
def TracePrintsWrongFalsely : Prop := tracePrintsRow.holds Tryd.pinned (OpenSpec.ofChange tracePrintsWrong)

/-- 'vesperlaw09.TracePacks': WHATEVER THE INPUT: true; the input reads as it did. -/
def tracePacksSpec : ChangeSpec := { name := "tracePacks", fn := fun _ => fun
  | [d] => { results := [.lit (.bool true)], args := [d] }
  | _ => none }
def tracePacksRow : OpenClaim := { program := "ytcenlgofldnfcaadoor", sum := "951c1576235b2d2f5624b79deac07596e75066c8699da3780f6a9cdd40884447", func := "vesper/vesperlaw09.TracePacks", spec := "tracePacks", inPlace := ["internal/abi.NoEscape", "internal/bytealg.MakeNoZero"], unfollowed := true, recurses := true, named := ["vesper/trace.modes"], apart := false, laid := [("vesper/trace.modes", laid_vesper_trace_modes)] }
def TracePacksSaid : Prop := tracePacksRow.holds Tryd.pinned (OpenSpec.ofChange tracePacksSpec)

/-- ITS FALSE NEIGHBOUR: 'it returns false'. Refute it at one input. -/
def tracePacksWrong : ChangeSpec := { name := "tracePacks", fn := fun _ => fun
  | [d] => { results := [.lit (.bool false)], args := [d] }
  | _ => none }
def TracePacksWrongFalsely : Prop := tracePacksRow.holds Tryd.pinned (OpenSpec.ofChange tracePacksWrong)

/-- 'vesperlaw09.TraceUnpacks': WHATEVER THE INPUT: true; the input reads as it did. -/
def traceUnpacksSpec : ChangeSpec := { name := "traceUnpacks", fn := fun _ => fun
  | [d] => { results := [.lit (.bool true)], args := [d] }
  | _ => none }
def traceUnpacksRow : OpenClaim := { program := "ytcenlgofldnfcaadoor", sum := "951c1576235b2d2f5624b79deac07596e75066c8699da3780f6a9cdd40884447", func := "vesper/vesperlaw09.TraceUnpacks", spec := "traceUnpacks", inPlace := ["internal/abi.NoEscape", "internal/bytealg.MakeNoZero"], unfollowed := true, recurses := true, named := ["vesper/trace.modes"], apart := false, laid := [("vesper/trace.modes", laid_vesper_trace_modes)] }
def TraceUnpacksSaid : Prop := traceUnpacksRow.holds Tryd.pinned (OpenSpec.ofChange traceUnpacksSpec)

/-- ITS FALSE NEIGHBOUR: 'it returns false'. Refute it at one input. -/
def traceUnpacksWrong : ChangeSpec := { name := "traceUnpacks", fn := fun _ => fun
  | [d] => { results := [.lit (.bool false)], args := [d] }
  | _ => none }
def TraceUnpacksWrongFalsely : Prop := traceUnpacksRow.holds Tryd.pinned (OpenSpec.ofChange traceUnpacksWrong)

/-- 'vesperlaw09.TraceApart': WHATEVER THE INPUT: true; the input reads as it did. -/
def traceApartSpec : ChangeSpec := { name := "traceApart", fn := fun _ => fun
  | [d1, d2] => { results := [.lit (.bool true)], args := [d1, d2] }
  | _ => none }
def traceApartRow : OpenClaim := { program := "ytcenlgofldnfcaadoor", sum := "951c1576235b2d2f5624b79deac07596e75066c8699da3780f6a9cdd40884447", func := "vesper/vesperlaw09.TraceApart", spec := "traceApart", inPlace := ["internal/abi.NoEscape", "internal/bytealg.MakeNoZero"], unfollowed := true, recurses := true, named := ["vesper/trace.modes"], apart := false, laid := [("vesper/trace.modes", laid_vesper_trace_modes)] }
def TraceApartSaid : Prop := traceApartRow.holds Tryd.pinned (OpenSpec.ofChange traceApartSpec)

/-- ITS FALSE NEIGHBOUR: 'it returns false'. Refute it at one input. -/
def traceApartWrong : ChangeSpec := { name := "traceApart", fn := fun _ => fun
  | [d1, d2] => { results := [.lit (.bool false)], args := [d1, d2] }
  | _ => none }
def TraceApartWrongFalsely : Prop := traceApartRow.holds Tryd.pinned (OpenSpec.ofChange traceApartWrong)

/-- 'vesperlaw09.TraceParses': WHATEVER THE INPUT: true; the input reads as it did. -/
def traceParsesSpec : ChangeSpec := { name := "traceParses", fn := fun _ => fun
  | [d] => { results := [.lit (.bool true)], args := [d] }
  | _ => none }
def traceParsesRow : OpenClaim := { program := "ytcenlgofldnfcaadoor", sum := "951c1576235b2d2f5624b79deac07596e75066c8699da3780f6a9cdd40884447", func := "vesper/vesperlaw09.TraceParses", spec := "traceParses", inPlace := ["internal/bytealg.IndexByteString", "internal/bytealg.IndexString", "internal/bytealg.CountString", "internal/abi.NoEscape", "internal/bytealg.MakeNoZero"], unfollowed := true, recurses := true, named := ["internal/bytealg.MaxLen", "vesper/trace.modes", "unicode/utf8.first", "unicode/utf8.acceptRanges"], apart := false, laid := [("unicode/utf8.acceptRanges", laid_unicode_utf8_acceptRanges), ("vesper/trace.modes", laid_vesper_trace_modes), ("unicode/utf8.first", laid_unicode_utf8_first)] }
def TraceParsesSaid : Prop := traceParsesRow.holds Tryd.pinned (OpenSpec.ofChange traceParsesSpec)

/-- ITS FALSE NEIGHBOUR: 'it returns false'. Refute it at one input. -/
def traceParsesWrong : ChangeSpec := { name := "traceParses", fn := fun _ => fun
  | [d] => { results := [.lit (.bool false)], args := [d] }
  | _ => none }
def TraceParsesWrongFalsely : Prop := traceParsesRow.holds Tryd.pinned (OpenSpec.ofChange traceParsesWrong)

/-- 'vesperlaw09.TraceBack': WHATEVER THE INPUT: true; the input reads as it did. -/
def traceBackSpec : ChangeSpec := { name := "traceBack", fn := fun _ => fun
  | [d1, d2, d3] => { results := [.lit (.bool true)], args := [d1, d2, d3] }
  | _ => none }
def traceBackRow : OpenClaim := { program := "ytcenlgofldnfcaadoor", sum := "951c1576235b2d2f5624b79deac07596e75066c8699da3780f6a9cdd40884447", func := "vesper/vesperlaw09.TraceBack", spec := "traceBack", inPlace := ["internal/abi.NoEscape", "internal/bytealg.MakeNoZero", "internal/bytealg.IndexByteString", "internal/bytealg.IndexString", "internal/bytealg.CountString"], unfollowed := true, recurses := true, named := ["vesper/trace.modes", "internal/bytealg.MaxLen", "unicode/utf8.first", "unicode/utf8.acceptRanges"], apart := false, laid := [("unicode/utf8.acceptRanges", laid_unicode_utf8_acceptRanges), ("vesper/trace.modes", laid_vesper_trace_modes), ("unicode/utf8.first", laid_unicode_utf8_first)] }
def TraceBackSaid : Prop := traceBackRow.holds Tryd.pinned (OpenSpec.ofChange traceBackSpec)

/-- ITS FALSE NEIGHBOUR: 'it returns false'. Refute it at one input. -/
def traceBackWrong : ChangeSpec := { name := "traceBack", fn := fun _ => fun
  | [d1, d2, d3] => { results := [.lit (.bool false)], args := [d1, d2, d3] }
  | _ => none }
def TraceBackWrongFalsely : Prop := traceBackRow.holds Tryd.pinned (OpenSpec.ofChange traceBackWrong)

/- THE SECOND FORM. 'bulk': how many values and letters a reading holds, each counted each time it is reached (what is shared counts as often as it is met; a slice's spare places count too). A statement '..UptoSaid' is the law's where the arguments, and the package variables that the reading takes, are together of bulk at most 1048576: NARROWER than '..Said'. Prove '..Said' where nothing that the law and all that it calls make is longer than what came in: it says more and counts as full. Else prove '..UptoSaid'. A law counts once. -/
mutual
def uptoBulk {H : Type} : DataW H → Nat
  | .lit (.string bytes) => bytes.length + 1
  | .lit _ => 1
  | .nil => 1
  | .ptr d => uptoBulk d + 1
  | .slice elems spare => uptoBulkAll elems + uptoBulkAll spare + 1
  | .agg parts => uptoBulkAll parts + 1
  | .iface _ d => uptoBulk d + 1
  | .map entries => uptoBulkEntries entries + 1
  | .held _ => 1
def uptoBulkAll {H : Type} : List (DataW H) → Nat
  | [] => 0
  | d :: r => uptoBulk d + uptoBulkAll r
def uptoBulkEntries {H : Type} : List (Lit × DataW H) → Nat
  | [] => 0
  | x :: r => uptoBulkEntry x + uptoBulkEntries r
def uptoBulkEntry {H : Type} : Lit × DataW H → Nat
  | (.string bytes, d) => bytes.length + uptoBulk d + 1
  | (_, d) => uptoBulk d + 1
 end
def uptoSmall : (H : Type) → List (DataW H) → Bool := fun _ ds => decide (uptoBulkAll ds ≤ 1048576)
def OpenSpec.upto (s : _root_.Go.ChangeSpec) : _root_.Go.OpenSpec := { _root_.Go.OpenSpec.ofChange s with cond := some uptoSmall }

/-- 'vesperlaw09.TraceNames', WHERE WHAT IT READS IS OF BULK AT MOST 1048576: true; the input reads as it did. -/
def traceNamesUptoRow : OpenClaim := { program := "ytcenlgofldnfcaadoor", sum := "951c1576235b2d2f5624b79deac07596e75066c8699da3780f6a9cdd40884447", func := "vesper/vesperlaw09.TraceNames", spec := "traceNames", inPlace := ["internal/abi.NoEscape", "internal/bytealg.MakeNoZero"], unfollowed := true, recurses := true, named := ["vesper/trace.modes"], apart := false, laid := [("vesper/trace.modes", laid_vesper_trace_modes)], narrowed := true }
def TraceNamesUptoSaid : Prop := traceNamesUptoRow.holds Tryd.pinned (OpenSpec.upto traceNamesSpec)

/-- 'vesperlaw09.TracePrints', WHERE WHAT IT READS IS OF BULK AT MOST 1048576: true; the input reads as it did. -/
def tracePrintsUptoRow : OpenClaim := { program := "ytcenlgofldnfcaadoor", sum := "951c1576235b2d2f5624b79deac07596e75066c8699da3780f6a9cdd40884447", func := "vesper/vesperlaw09.TracePrints", spec := "tracePrints", inPlace := ["internal/abi.NoEscape", "internal/bytealg.MakeNoZero"], unfollowed := true, recurses := true, named := ["vesper/trace.modes"], apart := false, laid := [("vesper/trace.modes", laid_vesper_trace_modes)], narrowed := true }
def TracePrintsUptoSaid : Prop := tracePrintsUptoRow.holds Tryd.pinned (OpenSpec.upto tracePrintsSpec)

/-- 'vesperlaw09.TracePacks', WHERE WHAT IT READS IS OF BULK AT MOST 1048576: true; the input reads as it did. -/
def tracePacksUptoRow : OpenClaim := { program := "ytcenlgofldnfcaadoor", sum := "951c1576235b2d2f5624b79deac07596e75066c8699da3780f6a9cdd40884447", func := "vesper/vesperlaw09.TracePacks", spec := "tracePacks", inPlace := ["internal/abi.NoEscape", "internal/bytealg.MakeNoZero"], unfollowed := true, recurses := true, named := ["vesper/trace.modes"], apart := false, laid := [("vesper/trace.modes", laid_vesper_trace_modes)], narrowed := true }
def TracePacksUptoSaid : Prop := tracePacksUptoRow.holds Tryd.pinned (OpenSpec.upto tracePacksSpec)

/-- 'vesperlaw09.TraceUnpacks', WHERE WHAT IT READS IS OF BULK AT MOST 1048576: true; the input reads as it did. -/
def traceUnpacksUptoRow : OpenClaim := { program := "ytcenlgofldnfcaadoor", sum := "951c1576235b2d2f5624b79deac07596e75066c8699da3780f6a9cdd40884447", func := "vesper/vesperlaw09.TraceUnpacks", spec := "traceUnpacks", inPlace := ["internal/abi.NoEscape", "internal/bytealg.MakeNoZero"], unfollowed := true, recurses := true, named := ["vesper/trace.modes"], apart := false, laid := [("vesper/trace.modes", laid_vesper_trace_modes)], narrowed := true }
def TraceUnpacksUptoSaid : Prop := traceUnpacksUptoRow.holds Tryd.pinned (OpenSpec.upto traceUnpacksSpec)

/-- 'vesperlaw09.TraceApart', WHERE WHAT IT READS IS OF BULK AT MOST 1048576: true; the input reads as it did. -/
def traceApartUptoRow : OpenClaim := { program := "ytcenlgofldnfcaadoor", sum := "951c1576235b2d2f5624b79deac07596e75066c8699da3780f6a9cdd40884447", func := "vesper/vesperlaw09.TraceApart", spec := "traceApart", inPlace := ["internal/abi.NoEscape", "internal/bytealg.MakeNoZero"], unfollowed := true, recurses := true, named := ["vesper/trace.modes"], apart := false, laid := [("vesper/trace.modes", laid_vesper_trace_modes)], narrowed := true }
def TraceApartUptoSaid : Prop := traceApartUptoRow.holds Tryd.pinned (OpenSpec.upto traceApartSpec)

/-- 'vesperlaw09.TraceParses', WHERE WHAT IT READS IS OF BULK AT MOST 1048576: true; the input reads as it did. -/
def traceParsesUptoRow : OpenClaim := { program := "ytcenlgofldnfcaadoor", sum := "951c1576235b2d2f5624b79deac07596e75066c8699da3780f6a9cdd40884447", func := "vesper/vesperlaw09.TraceParses", spec := "traceParses", inPlace := ["internal/bytealg.IndexByteString", "internal/bytealg.IndexString", "internal/bytealg.CountString", "internal/abi.NoEscape", "internal/bytealg.MakeNoZero"], unfollowed := true, recurses := true, named := ["internal/bytealg.MaxLen", "vesper/trace.modes", "unicode/utf8.first", "unicode/utf8.acceptRanges"], apart := false, laid := [("unicode/utf8.acceptRanges", laid_unicode_utf8_acceptRanges), ("vesper/trace.modes", laid_vesper_trace_modes), ("unicode/utf8.first", laid_unicode_utf8_first)], narrowed := true }
def TraceParsesUptoSaid : Prop := traceParsesUptoRow.holds Tryd.pinned (OpenSpec.upto traceParsesSpec)

/-- 'vesperlaw09.TraceBack', WHERE WHAT IT READS IS OF BULK AT MOST 1048576: true; the input reads as it did. -/
def traceBackUptoRow : OpenClaim := { program := "ytcenlgofldnfcaadoor", sum := "951c1576235b2d2f5624b79deac07596e75066c8699da3780f6a9cdd40884447", func := "vesper/vesperlaw09.TraceBack", spec := "traceBack", inPlace := ["internal/abi.NoEscape", "internal/bytealg.MakeNoZero", "internal/bytealg.IndexByteString", "internal/bytealg.IndexString", "internal/bytealg.CountString"], unfollowed := true, recurses := true, named := ["vesper/trace.modes", "internal/bytealg.MaxLen", "unicode/utf8.first", "unicode/utf8.acceptRanges"], apart := false, laid := [("unicode/utf8.acceptRanges", laid_unicode_utf8_acceptRanges), ("vesper/trace.modes", laid_vesper_trace_modes), ("unicode/utf8.first", laid_unicode_utf8_first)], narrowed := true }
def TraceBackUptoSaid : Prop := traceBackUptoRow.holds Tryd.pinned (OpenSpec.upto traceBackSpec)

end Rows
end Go.Proofs.YtcenlgofldnfcaaDoor
