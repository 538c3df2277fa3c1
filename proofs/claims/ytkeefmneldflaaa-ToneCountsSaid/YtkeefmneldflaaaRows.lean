/-
  No cell of these rows narrows 'for every input' (looked for: loops, veiled, ifaces, maps, wideKeys, modest, calm, conditions, laid).
  DERIVED. THE GIVEN ROWS OF THIS SEAT. 5 by the template 'for every input the law returns true; each argument reads behind the call as it read before'; 0 by the template 'total and deterministic' (their statements: YtkeefmneldflaaaTotals.lean).
  GIVEN WITH THE SEED: the statements are not yours to turn. If you find one false, say at which input.
  Laid BY PROGRAM, IN A SANDBOX (cutbox-rows.mjs): the forced cells as the released guide's own fill.sh prints them over the translation 133ab4d31a30159b… (all of the seat's roots in one cut). By AI agents, Wed Nov 11 2026. No macro, syntax, notation, axiom, sorry.
-/
import Derived.Test.YtkeefmneldflaaaChecked
import GoSem.Claim
import GoSem.ClaimJoined
import GoSem.ClaimMapViews
import Derived.JoinedTies
import Derived.KernelRfl
namespace Go.Proofs.Ytkeefmneldflaaa
/- THE CELL 'sum', in the pinned program and in every row, IS THE sha256 OF THE DUMP (.gsa) THAT YtkeefmneldflaaaProg.lean LOADS. Nothing in Lean hashes anything: it is a label: what it is worth is what the hold of that sum in a sandbox is worth. -/
noncomputable def Try.pinned : Pinned := { name := "ytkeefmneldflaaa", sum := "133ab4d31a30159bb78ff9d9213928f106d285ea0814d67884b1dcbf3be2fbc1", checked := Try.checked }
namespace Rows
def none {H : Type} : Left H := { results := [], args := [] }

/-- 'vesperlaw11.ToneBeeps': WHATEVER THE INPUT: true; the input reads as it did. -/
def toneBeepsSpec : ChangeSpec := { name := "toneBeeps", fn := fun _ => fun
  | [d] => { results := [.lit (.bool true)], args := [d] }
  | _ => none }
def toneBeepsRow : OpenClaim := { program := "ytkeefmneldflaaa", sum := "133ab4d31a30159bb78ff9d9213928f106d285ea0814d67884b1dcbf3be2fbc1", func := "vesper/vesperlaw11.ToneBeeps", spec := "toneBeeps", unfollowed := true, recurses := true, apart := false }
def ToneBeepsSaid : Prop := toneBeepsRow.holds Try.pinned (OpenSpec.ofChange toneBeepsSpec)

/-- ITS FALSE NEIGHBOUR: 'it returns false'. Refute it at one input. -/
def toneBeepsWrong : ChangeSpec := { name := "toneBeeps", fn := fun _ => fun
  | [d] => { results := [.lit (.bool false)], args := [d] }
  | _ => none }
def ToneBeepsWrongFalsely : Prop := toneBeepsRow.holds Try.pinned (OpenSpec.ofChange toneBeepsWrong)

/-- 'vesperlaw11.ToneWaves': WHATEVER THE INPUT: true; the input reads as it did. -/
def toneWavesSpec : ChangeSpec := { name := "toneWaves", fn := fun _ => fun
  | [d] => { results := [.lit (.bool true)], args := [d] }
  | _ => none }
def toneWavesRow : OpenClaim := { program := "ytkeefmneldflaaa", sum := "133ab4d31a30159bb78ff9d9213928f106d285ea0814d67884b1dcbf3be2fbc1", func := "vesper/vesperlaw11.ToneWaves", spec := "toneWaves", unfollowed := true, recurses := true, apart := false }
def ToneWavesSaid : Prop := toneWavesRow.holds Try.pinned (OpenSpec.ofChange toneWavesSpec)

/-- ITS FALSE NEIGHBOUR: 'it returns false'. Refute it at one input. -/
def toneWavesWrong : ChangeSpec := { name := "toneWaves", fn := fun _ => fun
  | [d] => { results := [.lit (.bool false)], args := [d] }
  | _ => none }
def ToneWavesWrongFalsely : Prop := toneWavesRow.holds Try.pinned (OpenSpec.ofChange toneWavesWrong)

/-- 'vesperlaw11.ToneLevels': WHATEVER THE INPUT: true; the input reads as it did. -/
def toneLevelsSpec : ChangeSpec := { name := "toneLevels", fn := fun _ => fun
  | [d] => { results := [.lit (.bool true)], args := [d] }
  | _ => none }
def toneLevelsRow : OpenClaim := { program := "ytkeefmneldflaaa", sum := "133ab4d31a30159bb78ff9d9213928f106d285ea0814d67884b1dcbf3be2fbc1", func := "vesper/vesperlaw11.ToneLevels", spec := "toneLevels", unfollowed := true, recurses := true, apart := false }
def ToneLevelsSaid : Prop := toneLevelsRow.holds Try.pinned (OpenSpec.ofChange toneLevelsSpec)

/-- ITS FALSE NEIGHBOUR: 'it returns false'. Refute it at one input. -/
def toneLevelsWrong : ChangeSpec := { name := "toneLevels", fn := fun _ => fun
  | [d] => { results := [.lit (.bool false)], args := [d] }
  | _ => none }
def ToneLevelsWrongFalsely : Prop := toneLevelsRow.holds Try.pinned (OpenSpec.ofChange toneLevelsWrong)

/-- 'vesperlaw11.ToneCounts': WHATEVER THE INPUT: true; the input reads as it did. -/
def toneCountsSpec : ChangeSpec := { name := "toneCounts", fn := fun _ => fun
  | [d] => { results := [.lit (.bool true)], args := [d] }
  | _ => none }
def toneCountsRow : OpenClaim := { program := "ytkeefmneldflaaa", sum := "133ab4d31a30159bb78ff9d9213928f106d285ea0814d67884b1dcbf3be2fbc1", func := "vesper/vesperlaw11.ToneCounts", spec := "toneCounts", unfollowed := true, recurses := true, apart := false }
def ToneCountsSaid : Prop := toneCountsRow.holds Try.pinned (OpenSpec.ofChange toneCountsSpec)

/-- ITS FALSE NEIGHBOUR: 'it returns false'. Refute it at one input. -/
def toneCountsWrong : ChangeSpec := { name := "toneCounts", fn := fun _ => fun
  | [d] => { results := [.lit (.bool false)], args := [d] }
  | _ => none }
def ToneCountsWrongFalsely : Prop := toneCountsRow.holds Try.pinned (OpenSpec.ofChange toneCountsWrong)

/-- 'vesperlaw11.ToneSame': WHATEVER THE INPUT: true; the input reads as it did. -/
def toneSameSpec : ChangeSpec := { name := "toneSame", fn := fun _ => fun
  | [d1, d2] => { results := [.lit (.bool true)], args := [d1, d2] }
  | _ => none }
def toneSameRow : OpenClaim := { program := "ytkeefmneldflaaa", sum := "133ab4d31a30159bb78ff9d9213928f106d285ea0814d67884b1dcbf3be2fbc1", func := "vesper/vesperlaw11.ToneSame", spec := "toneSame", unfollowed := true, recurses := true, apart := false }
def ToneSameSaid : Prop := toneSameRow.holds Try.pinned (OpenSpec.ofChange toneSameSpec)

/-- ITS FALSE NEIGHBOUR: 'it returns false'. Refute it at one input. -/
def toneSameWrong : ChangeSpec := { name := "toneSame", fn := fun _ => fun
  | [d1, d2] => { results := [.lit (.bool false)], args := [d1, d2] }
  | _ => none }
def ToneSameWrongFalsely : Prop := toneSameRow.holds Try.pinned (OpenSpec.ofChange toneSameWrong)

/- THE SECOND FORM. 'bulk': how many values and letters a reading holds, each counted each time it is reached (what is shared counts as often as it is met; a slice's spare places count too). A statement '..UptoSaid' is the law's where the arguments, and the package variables that the reading takes, are together of bulk at most 1048576: NARROWER than '..Said'. Prove '..Said' where nothing that the law and all that it calls make is longer than what came in: it says more and counts as full. Else prove '..UptoSaid'. A law counts once. -/
mutual
def uptoBulk {H : Type} : DataW H → Nat
  | .lit (.string bytes) => bytes.length + 1
  | .lit _ => 1
  | .nil => 1
  | .ptr d => uptoBulk d + 1
  | .slice elems spare => uptoBulkAll elems + uptoBulkAll spare + 1
  | .agg parts => uptoBulkAll parts + 1
  | .iface _ d => uptoBulk d + 1
  | .map entries => uptoBulkEntries entries + 1
  | .held _ => 1
def uptoBulkAll {H : Type} : List (DataW H) → Nat
  | [] => 0
  | d :: r => uptoBulk d + uptoBulkAll r
def uptoBulkEntries {H : Type} : List (Lit × DataW H) → Nat
  | [] => 0
  | x :: r => uptoBulkEntry x + uptoBulkEntries r
def uptoBulkEntry {H : Type} : Lit × DataW H → Nat
  | (.string bytes, d) => bytes.length + uptoBulk d + 1
  | (_, d) => uptoBulk d + 1
 end
def uptoSmall : (H : Type) → List (DataW H) → Bool := fun _ ds => decide (uptoBulkAll ds ≤ 1048576)
def OpenSpec.upto (s : _root_.Go.ChangeSpec) : _root_.Go.OpenSpec := { _root_.Go.OpenSpec.ofChange s with cond := some uptoSmall }

/-- 'vesperlaw11.ToneBeeps', WHERE WHAT IT READS IS OF BULK AT MOST 1048576: true; the input reads as it did. -/
def toneBeepsUptoRow : OpenClaim := { program := "ytkeefmneldflaaa", sum := "133ab4d31a30159bb78ff9d9213928f106d285ea0814d67884b1dcbf3be2fbc1", func := "vesper/vesperlaw11.ToneBeeps", spec := "toneBeeps", unfollowed := true, recurses := true, apart := false, narrowed := true }
def ToneBeepsUptoSaid : Prop := toneBeepsUptoRow.holds Try.pinned (OpenSpec.upto toneBeepsSpec)

/-- 'vesperlaw11.ToneWaves', WHERE WHAT IT READS IS OF BULK AT MOST 1048576: true; the input reads as it did. -/
def toneWavesUptoRow : OpenClaim := { program := "ytkeefmneldflaaa", sum := "133ab4d31a30159bb78ff9d9213928f106d285ea0814d67884b1dcbf3be2fbc1", func := "vesper/vesperlaw11.ToneWaves", spec := "toneWaves", unfollowed := true, recurses := true, apart := false, narrowed := true }
def ToneWavesUptoSaid : Prop := toneWavesUptoRow.holds Try.pinned (OpenSpec.upto toneWavesSpec)

/-- 'vesperlaw11.ToneLevels', WHERE WHAT IT READS IS OF BULK AT MOST 1048576: true; the input reads as it did. -/
def toneLevelsUptoRow : OpenClaim := { program := "ytkeefmneldflaaa", sum := "133ab4d31a30159bb78ff9d9213928f106d285ea0814d67884b1dcbf3be2fbc1", func := "vesper/vesperlaw11.ToneLevels", spec := "toneLevels", unfollowed := true, recurses := true, apart := false, narrowed := true }
def ToneLevelsUptoSaid : Prop := toneLevelsUptoRow.holds Try.pinned (OpenSpec.upto toneLevelsSpec)

/-- 'vesperlaw11.ToneCounts', WHERE WHAT IT READS IS OF BULK AT MOST 1048576: true; the input reads as it did. -/
def toneCountsUptoRow : OpenClaim := { program := "ytkeefmneldflaaa", sum := "133ab4d31a30159bb78ff9d9213928f106d285ea0814d67884b1dcbf3be2fbc1", func := "vesper/vesperlaw11.ToneCounts", spec := "toneCounts", unfollowed := true, recurses := true, apart := false, narrowed := true }
def ToneCountsUptoSaid : Prop := toneCountsUptoRow.holds Try.pinned (OpenSpec.upto toneCountsSpec)

/-- 'vesperlaw11.ToneSame', WHERE WHAT IT READS IS OF BULK AT MOST 1048576: true; the input reads as it did. -/
def toneSameUptoRow : OpenClaim := { program := "ytkeefmneldflaaa", sum := "133ab4d31a30159bb78ff9d9213928f106d285ea0814d67884b1dcbf3be2fbc1", func := "vesper/vesperlaw11.ToneSame", spec := "toneSame", unfollowed := true, recurses := true, apart := false, narrowed := true }
def ToneSameUptoSaid : Prop := toneSameUptoRow.holds Try.pinned (OpenSpec.upto toneSameSpec)

end Rows
end Go.Proofs.Ytkeefmneldflaaa
