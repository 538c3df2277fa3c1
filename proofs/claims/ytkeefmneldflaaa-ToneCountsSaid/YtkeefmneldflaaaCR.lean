/- A part of the proof of ToneCountsSaid. -/
import Derived.Test.YtkeefmneldflaaaCW3
import Derived.Test.YtkeefmneldflaaaCSxOpen
set_option linter.unusedVariables false
namespace Go.Proofs.Ytkeefmneldflaaa
open Go.ChangeShapes Go.WideShapes Go.ChangeAt Go.RowKit Go.SX
theorem own : ownKnob Try.prog.godebug = none := by kernel_rfl
theorem laidOut : laidOutB Try.prog = true := by kernel_rfl
abbrev RK : List FK := [.i .u8, .i .u16, .i .u8, .b, .b, .i .u8, .b, .i .u8]
theorem flat41 : flatK Try.prog 9 41 = some RK := by kernel_rfl
theorem cells41 : Try.prog.cellsOf 41 = RK.length := by kernel_rfl
def qOf (r : List Value) : Bool := match (r[6]? : Option Value) with | some (Value.bool q) => q | _ => false
theorem qOf_at {r : List Value} (h : okVs RK r = true) : r[6]? = some (.bool (qOf r)) := by
  obtain ⟨x0, v1, e1, _, h⟩ := okVs_i h
  obtain ⟨x1, v2, e2, _, h⟩ := okVs_i h
  obtain ⟨x2, v3, e3, _, h⟩ := okVs_i h
  obtain ⟨x3, v4, e4, h⟩ := okVs_b h
  obtain ⟨x4, v5, e5, h⟩ := okVs_b h
  obtain ⟨x5, v6, e6, _, h⟩ := okVs_i h
  obtain ⟨x6, v7, e7, h⟩ := okVs_b h
  subst e7 e6 e5 e4 e3 e2 e1
  rfl
theorem recs_open {H : Type} {enc : TypeId × Value → H} {W : World} {base : Nat} {v : Value} {d : DataW H} {p : List MemPlace} (hok : Value.okWide Try.prog W .any base 22 v) (h : DataW.Trod enc Try.prog W 0 (fun _ => true) true 22 v d p) :
    ∃ (A : Option Addr) (c : Nat) (qs : List Bool), v = .slice A qs.length c ∧ qs.length ≤ c ∧ Recs ⟨Try.prog, W, []⟩ [] A qs ∧ qs.length ≤ maxLen := by
  obtain ⟨xs, ⟨A, c, rfl, hc, hA⟩, hk, hm⟩ := open_sls Try.underlying22 flat41 cells41 hok h
  refine ⟨A, c, xs.map qOf, by rw [List.length_map], by rw [List.length_map]; exact hc, fun j hj => ?_, by rw [List.length_map]; exact hm⟩
  rw [List.length_map] at hj
  have hx : xs[j]? = some xs[j] := List.getElem?_eq_getElem hj
  obtain ⟨a, ha, hr⟩ := hA j _ hx
  have h6 := hr 6 _ (qOf_at (hk _ (List.getElem_mem hj)))
  rw [add_addS] at h6
  refine ⟨a, ha, ?_⟩
  rw [List.getD_eq_getElem?_getD, List.getElem?_map, hx]
  exact h6
end Go.Proofs.Ytkeefmneldflaaa
