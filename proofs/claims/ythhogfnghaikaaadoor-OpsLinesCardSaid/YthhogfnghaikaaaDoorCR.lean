/- A part of the proof of OpsLinesCardSaid. -/
import Derived.Test.YthhogfnghaikaaaDoorCD11
import Derived.Test.YthhogfnghaikaaaDoorRows
import Derived.Test.YthhogfnghaikaaaDoorCards
import Derived.Test.YthhogfnghaikaaaDoorTie
import Derived.Test.YthhogfnghaikaaaDoorCSxOpen
import Derived.Test.YthhogfnghaikaaaDoorCSxShape
import Derived.SevenTiedAt
set_option linter.unusedVariables false
namespace Go.Proofs.YthhogfnghaikaaaDoor
open Go.ChangeShapes Go.WideShapes Go.ChangeAt Go.RowKit Go.SX
theorem own : ownKnob Tryd.prog.godebug = none := by kernel_rfl
theorem laidOut : laidOutB Tryd.prog = true := by kernel_rfl
theorem hasM {W : World} (h : W.ShapedOpen Tryd.prog) : HasM ⟨Tryd.prog, W, []⟩ := ⟨by simp, Tryd.laysM146.s1_3 W h⟩
theorem flat25 : flatK Tryd.prog 9 25 = some [.i .u8, .i .u8, .i .u8, .i .u8, .i .u8, .i .u16] := by kernel_rfl
theorem nat_u8 {n : Int} (h : (Lit.int .u8 n).wf = true) : ∃ k : Nat, k < 256 ∧ n = k := by
  have := bounds_u8 h
  exact ⟨n.toNat, by omega, by omega⟩
theorem nat_u16 {n : Int} (h : (Lit.int .u16 n).wf = true) : ∃ k : Nat, k < 65536 ∧ n = k := by
  have h1 : 0 ≤ n ∧ n ≤ 65535 := by simpa [wf_u16] using h
  exact ⟨n.toNat, by omega, by omega⟩
set_option maxRecDepth 100000 in
theorem open_ord {H : Type} {enc : TypeId × Value → H} {W : World} {base : Nat} {v : Value} {d : DataW H} {p : List MemPlace} (hv : Value.okWide Tryd.prog W .any base 25 v) (h : DataW.Trod enc Tryd.prog W 0 (fun _ => true) true 25 v d p) :
    ∃ o : Ord, OkO o ∧ v = .agg o.cells.toArray := by
  obtain ⟨cs, rfl, _⟩ := okWide_struct Tryd.underlying25 hv
  have h1 := open_flat flat25 h
  simp only [Value.cells] at h1
  obtain ⟨n0, l0, e0, w0, h1⟩ := okVs_i h1
  obtain ⟨n1, l1, e1, w1, h1⟩ := okVs_i h1
  obtain ⟨n2, l2, e2, w2, h1⟩ := okVs_i h1
  obtain ⟨n3, l3, e3, w3, h1⟩ := okVs_i h1
  obtain ⟨n4, l4, e4, w4, h1⟩ := okVs_i h1
  obtain ⟨n5, l5, e5, w5, h1⟩ := okVs_i h1
  have e6 := okVs_nil h1
  obtain ⟨k0, b0, rfl⟩ := nat_u8 w0
  obtain ⟨k1, b1, rfl⟩ := nat_u8 w1
  obtain ⟨k2, b2, rfl⟩ := nat_u8 w2
  obtain ⟨k3, b3, rfl⟩ := nat_u8 w3
  obtain ⟨k4, b4, rfl⟩ := nat_u8 w4
  obtain ⟨k5, b5, rfl⟩ := nat_u16 w5
  refine ⟨⟨k0, k1, k2, k3, k4, k5⟩, ⟨b0, b1, b2, b3, b4, b5⟩, ?_⟩
  congr 1
  apply Array.ext'
  rw [e0, e1, e2, e3, e4, e5, e6]
  rfl
end Go.Proofs.YthhogfnghaikaaaDoor
