/- A part of the proof of PixieExactCardSaid. -/
import Derived.Test.YtnmidobpknghgaaDoorCW1
import Derived.Test.YtnmidobpknghgaaDoorRows
import Derived.Test.YtnmidobpknghgaaDoorCards
import Derived.Test.YtnmidobpknghgaaDoorTie
import Derived.Test.YtnmidobpknghgaaDoorCSxOpen
import Derived.SevenTiedAt
set_option linter.unusedVariables false
namespace Go.Proofs.YtnmidobpknghgaaDoor
open Go.ChangeShapes Go.WideShapes Go.ChangeAt Go.RowKit Go.SX

theorem own : ownKnob Tryd.prog.godebug = none := by kernel_rfl
theorem laidOut : laidOutB Tryd.prog = true := by kernel_rfl
theorem cells3 : Tryd.prog.cellsOf 3 = 1 := by kernel_rfl
theorem cells43 : Tryd.prog.cellsOf 43 = 2 := by kernel_rfl
theorem cells44 : Tryd.prog.cellsOf 44 = 2 := by kernel_rfl
theorem cells45 : Tryd.prog.cellsOf 45 = 4 := by kernel_rfl
theorem gSh : Tryd.prog.globalNamed "vesper/pixie.shown" = some 0 := by kernel_rfl
theorem gFl : Tryd.prog.globalNamed "vesper/pixie.flags" = some 1 := by kernel_rfl
theorem gAs : Tryd.prog.globalNamed "vesper/pixie.asks" = some 2 := by kernel_rfl
theorem tSh : (Tryd.prog.globals[0]?).map (·.type) = some 44 := by kernel_rfl
theorem tFl : (Tryd.prog.globals[1]?).map (·.type) = some 45 := by kernel_rfl
theorem tAs : (Tryd.prog.globals[2]?).map (·.type) = some 44 := by kernel_rfl
theorem pairs_of {W : World} {g n : Nat} {t : TypeId} {bs : List (Int × Int)} {laid : List (String × DataW Unit)} {nm : String} {d : DataW Unit} (hp : (laid.all fun x => x.2.handleName?.isNone) = true) (hL : laidMetH Tryd.prog laid W) (hm : (nm, d) ∈ laid)
    (hg : Tryd.prog.globalNamed nm = some g) (ht : (Tryd.prog.globals[g]?).map (·.type) = some t) (hu : Tryd.prog.underlying t = some (.array n 43)) (hc : Tryd.prog.cellsOf t = n * 2)
    (hd : d = .agg ((bs.map fun b => [b.1, b.2]).map fun zs => .agg (litsD .i64 zs))) : Pairs ⟨Tryd.prog, W, []⟩ ⟨g, 0, none⟩ bs := by
  obtain ⟨cs, f, p, h1, h2⟩ := laid_var hp hL hm hg ht
  have key := trod_arr_arr (zss := bs.map fun b => [b.1, b.2]) hu Tryd.underlying43 Tryd.underlying3 cells3 cells43 hc (by intro zs hz; obtain ⟨b, _, rfl⟩ := List.mem_map.1 hz; rfl) h1 hd
  intro L i b hb
  have hi : (bs.map fun b => [b.1, b.2])[i]? = some [b.1, b.2] := by rw [List.getElem?_map, hb]; rfl
  constructor
  · refine Cell.old (by simp) ?_
    rw [Addr.add_lit, Nat.zero_add, h2]
    exact key i 0 _ _ hi rfl
  · refine Cell.old (by simp) ?_
    rw [Addr.add_lit, Nat.zero_add, h2]
    exact key i 1 _ _ hi rfl
theorem flat23 : flatK Tryd.prog 9 23 = some [.i .i64, .i .i64, .b, .i .i64] := by kernel_rfl
theorem open_ras {H : Type} {enc : TypeId × Value → H} {W : World} {base : Nat} {v : Value} {d : DataW H} {p : List MemPlace} (hv : Value.okWide Tryd.prog W .any base 23 v) (h : DataW.Trod enc Tryd.prog W 0 (fun _ => true) true 23 v d p) :
    ∃ (l c g : Int) (o : Bool), v = .agg #[.int .i64 l, .int .i64 c, .bool o, .int .i64 g] ∧ (Lit.int .i64 l).wf = true ∧ (Lit.int .i64 c).wf = true ∧ (Lit.int .i64 g).wf = true := by
  obtain ⟨cs, rfl, _⟩ := okWide_struct Tryd.underlying23 hv
  have hk := open_flat flat23 h
  obtain ⟨l, v1, e1, h1, hk⟩ := okVs_i hk
  obtain ⟨c, v2, e2, h2, hk⟩ := okVs_i hk
  obtain ⟨o, v3, e3, hk⟩ := okVs_b hk
  obtain ⟨g, v4, e4, h3, hk⟩ := okVs_i hk
  have e5 := okVs_nil hk
  subst e5 e4 e3 e2
  exact ⟨l, c, g, o, congrArg Value.agg (Array.toList_inj.1 e1), h1, h2, h3⟩
end Go.Proofs.YtnmidobpknghgaaDoor
