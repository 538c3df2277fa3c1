/- A part of the proof of OpsLinesCardSaid. -/
import Derived.Test.YthhogfnghaikaaaDoorCSxEnd
import Derived.LaidMore
import Derived.Stop.Joined
set_option linter.unusedVariables false
set_option linter.unusedSimpArgs false
/-! Tables that lie in the program's variables. -/
namespace Go.SX
open Go.ChangeShapes Go.WideShapes Go.ChangeAt Go.RowKit
section
variable {H : Type} {enc : TypeId × Value → H} {P : Program} {w : World} {base : Nat} {spare : Nat → Bool} {held : Bool} {fuel : Nat} {cs : List Value} {x : DataW H × List MemPlace}
def litsD {H : Type} (k : IntKind) (zs : List Int) : List (DataW H) := zs.map fun z => .lit (.int k z)
theorem trod_arr_ints {t e n : TypeId} {k : IntKind} {zs : List Int} (hu : P.underlying t = some (.array n e)) (he : P.underlying e = some (.int k)) (hc : P.cellsOf e = 1) (ht : P.cellsOf t = n)
    (h : DataW.trod enc P w base spare held fuel t cs = some x) (hx : x.1 = .agg (litsD k zs)) : cs = ints k zs := by
  obtain ⟨xs, m, rfl, rfl, hlen, hn, hel⟩ := DataW.trod_array hu h
  simp only [DataW.agg.injEq] at hx
  have hzl : zs.length = n := by
    have := congrArg List.length hx
    simp [litsD] at this
    omega
  refine List.ext_getElem? fun i => ?_
  by_cases hi : i < n
  · have h1 := hel i hi
    rw [hc, Nat.mul_one] at h1
    have hxi : xs[i]? = some (xs[i]'(by omega)) := List.getElem?_eq_getElem (by omega)
    rw [hxi] at h1
    obtain ⟨z, e1, e2, _⟩ := DataW.trod_int he h1
    have h2 := congrArg (fun l => l[i]?) hx
    simp only [List.getElem?_map, hxi, litsD, Option.map_some, e2] at h2
    have hzi : zs[i]? = some (zs[i]'(by omega)) := List.getElem?_eq_getElem (by omega)
    rw [hzi] at h2
    simp only [Option.map_some, Option.some.injEq, DataW.lit.injEq, Lit.int.injEq, true_and] at h2
    have h3 : cs[i]? = some (.int k z) := by
      have := congrArg List.head? e1
      rw [List.head?_take, if_neg (by omega), List.head?_drop] at this
      exact this
    rw [h3, ints_at, hzi, h2]
    rfl
  · rw [List.getElem?_eq_none (by omega), List.getElem?_eq_none (by rw [ints_length]; omega)]
theorem trod_arr_arr {t e u n m : TypeId} {k : IntKind} {zss : List (List Int)} (hu : P.underlying t = some (.array n e)) (he : P.underlying e = some (.array m u)) (hi : P.underlying u = some (.int k)) (hc : P.cellsOf u = 1) (hce : P.cellsOf e = m) (hct : P.cellsOf t = n * m)
    (hz : ∀ zs ∈ zss, zs.length = m)
    (h : DataW.trod enc P w base spare held fuel t cs = some x) (hx : x.1 = .agg (zss.map fun zs => .agg (litsD k zs))) : ∀ (i j : Nat) (zs : List Int) (z : Int), zss[i]? = some zs → zs[j]? = some z → cs[i * m + j]? = some (.int k z) := by
  obtain ⟨xs, f, rfl, rfl, hlen, hn, hel⟩ := DataW.trod_array hu h
  simp only [DataW.agg.injEq] at hx
  intro i j zs z hzi hzj
  have hil : i < zss.length := (List.getElem?_eq_some_iff.1 hzi).1
  have hl2 : zss.length = n := by
    have := congrArg List.length hx
    simp at this
    omega
  have h1 := hel i (by omega)
  rw [hce] at h1
  have hxi : xs[i]? = some (xs[i]'(by omega)) := List.getElem?_eq_getElem (by omega)
  rw [hxi] at h1
  have h2 := congrArg (fun l => l[i]?) hx
  simp only [List.getElem?_map, hxi, hzi, Option.map_some, Option.some.injEq] at h2
  have h3 := trod_arr_ints he hi hc hce h1 h2
  have hjm : j < m := by
    have := (List.getElem?_eq_some_iff.1 hzj).1
    rw [hz zs (List.mem_of_getElem? hzi)] at this
    exact this
  have h4 := congrArg (fun l => l[j]?) h3
  simp only [ints_at, hzj, Option.map_some, List.getElem?_take, if_pos hjm, List.getElem?_drop] at h4
  exact h4
end

theorem law_lifted_laid {H : Type} {enc : TypeId × Value → H} {C : Checked} {a : Assume} {os : Os} {f : FuncId} {fn : Func} {s : ChangeSpec} {conds : List PathCond} {apart : Bool} {tb : TypeId} {laid : List (String × DataW Unit)}
    (own : ownKnob C.prog.godebug = none) (started : os.Started) (noInit : C.prog.inits.idxOf? f = none) (hfn : C.prog.funcs[f]? = some fn)
    (witness : ∃ (w : World) (tape : Tape) (i : Input), w.os = os ∧ (w.forCall tape i).Shaped C.prog ∧ i.vars = [] ∧ Input.okWide C.prog (w.forCall tape i) .any w.heap.size f i ∧
      ((s.pre enc C.prog fn conds apart (w.forCall tape i).memory i.args ∧ laidMetH C.prog laid (w.forCall tape i).memory) ∧ sizedMet enc C.prog fn (OpenSpec.ofChange s) apart (w.forCall tape i).memory i.args) ∧ a.holds C.prog (lone (Frame.enter C.prog f i.args .normal) [] (w.forCall tape i)))
    (hv : s.vars = []) (hlaid : laidOutB C.prog = true) (hread : fn.params.toList.all (fun t => C.prog.readableRec t && decide (t < C.prog.types.size)) = true)
    (hres : fn.resultTypes = #[tb]) (htb : C.prog.underlying tb = some .bool)
    (hspec : ∀ ds : List (DataW H), ds.length = fn.params.toList.length → s.fn H ds = { results := [.lit (.bool true)], args := ds, vars := [] })
    (hwalk : ∀ (W : World) (base : Nat) (args : Array Value) (ds : List (DataW H)) (p : List MemPlace), (∀ (j : Nat) t v, fn.params[j]? = some t → args[j]? = some v → Value.okWide C.prog W .any base t v) → laidMetH C.prog laid W →
      DataW.TrodAll enc C.prog W 0 (fun _ => true) true fn.params.toList args.toList ds p → Calls C.prog f args W fun e W' => e = .returned (.bool true) ∧ Below W.heap.size W W') :
    ReturnsInHanded a C os f .any (fun w args => (s.pre enc C.prog fn conds apart w args ∧ laidMetH C.prog laid w) ∧ sizedMet enc C.prog fn (OpenSpec.ofChange s) apart w args) (s.post enc C.prog fn apart true false false) := by
  refine returnsInHanded_of_change_and (X := fun w _ => laidMetH C.prog laid w) (fun _ _ _ hh h => h.of_heap hh) own started noInit hfn witness ?_
  intro W base args ds gs before hval hW _ _ hL _
  exact law_contract hv hlaid hread hres htb hspec hW fun p hA => hwalk W base args ds p hval hL hA
end Go.SX
