/- A part of the proof of OpsLinesCardSaid. -/
import Derived.Test.YthhogfnghaikaaaDoorCSxLaid
import Derived.HandedShaped
set_option linter.unusedVariables false
set_option linter.unusedSimpArgs false
/-! The last step of a law, the first world's shape being known (what the library's own variables hold). -/
namespace Go.SX
open Go.ChangeShapes Go.WideShapes Go.ChangeAt Go.RowKit
theorem law_lifted_shaped {H : Type} {enc : TypeId × Value → H} {C : Checked} {a : Assume} {os : Os} {f : FuncId} {fn : Func} {s : ChangeSpec} {conds : List PathCond} {apart : Bool} {tb : TypeId} {laid : List (String × DataW Unit)}
    (own : ownKnob C.prog.godebug = none) (started : os.Started) (noInit : C.prog.inits.idxOf? f = none) (hfn : C.prog.funcs[f]? = some fn)
    (witness : ∃ (w : World) (tape : Tape) (i : Input), w.os = os ∧ (w.forCall tape i).Shaped C.prog ∧ i.vars = [] ∧ Input.okWide C.prog (w.forCall tape i) .any w.heap.size f i ∧
      ((s.pre enc C.prog fn conds apart (w.forCall tape i).memory i.args ∧ laidMetH C.prog laid (w.forCall tape i).memory) ∧ sizedMet enc C.prog fn (OpenSpec.ofChange s) apart (w.forCall tape i).memory i.args) ∧ a.holds C.prog (lone (Frame.enter C.prog f i.args .normal) [] (w.forCall tape i)))
    (hv : s.vars = []) (hlaid : laidOutB C.prog = true) (hread : fn.params.toList.all (fun t => C.prog.readableRec t && decide (t < C.prog.types.size)) = true)
    (hres : fn.resultTypes = #[tb]) (htb : C.prog.underlying tb = some .bool)
    (hspec : ∀ ds : List (DataW H), ds.length = fn.params.toList.length → s.fn H ds = { results := [.lit (.bool true)], args := ds, vars := [] })
    (hwalk : ∀ (W : World) (base : Nat) (args : Array Value) (ds : List (DataW H)) (p : List MemPlace), (∀ (j : Nat) t v, fn.params[j]? = some t → args[j]? = some v → Value.okWide C.prog W .any base t v) → laidMetH C.prog laid W → W.ShapedOpen C.prog →
      DataW.TrodAll enc C.prog W 0 (fun _ => true) true fn.params.toList args.toList ds p → Calls C.prog f args W fun e W' => e = .returned (.bool true) ∧ Below W.heap.size W W') :
    ReturnsInHanded a C os f .any (fun w args => (s.pre enc C.prog fn conds apart w args ∧ laidMetH C.prog laid w) ∧ sizedMet enc C.prog fn (OpenSpec.ofChange s) apart w args) (s.post enc C.prog fn apart true false false) := by
  refine returnsInHanded_of_calls own started noInit witness ?_
  intro w tape i _ hsh _ hok hpre hholds
  obtain ⟨_, _, _, fn', hfn', _, _, _, _, hval⟩ := hok
  have e : fn' = fn := Option.some.inj (hfn'.symm.trans hfn)
  subst e
  obtain ⟨⟨⟨ds, gs, before, hw, hc⟩, hx⟩, hz⟩ := hpre
  have hw' := DataW.Whole.of_heap (w' := w.forCall tape i) (by rfl) hw
  refine (law_contract hv hlaid hread hres htb hspec hw' fun p hA => hwalk (w.forCall tape i) w.heap.size i.args ds p hval (hx.of_heap (by rfl)) hsh hA).mono fun e W' ⟨v, he, hp⟩ => ?_
  subst he
  exact ChangeSpec.post_blind hp
/-- A contract of the library's, in the words of the walk: the world as it was. -/
theorem SCall.of_calls {Γ : Ctx} {f : FuncId} {args : Array Value} {L : Hp} {v : Value} (h : ∀ w, Inv Γ L w → Calls Γ.P f args w fun e w' => e = .returned v ∧ ∃ n, w' = w.drewN n) : SCall Γ f args L (fun v' L' => v' = v ∧ L' = L) := fun w hi =>
  (h w hi).mono fun e w' ⟨he, n, hw⟩ => ⟨v, L, he, hw ▸ hi.drewN n, rfl, rfl⟩
theorem SCall.of_calls_eq {Γ : Ctx} {f : FuncId} {args : Array Value} {L : Hp} {v : Value} (h : ∀ w, Inv Γ L w → Calls Γ.P f args w fun e w' => e = .returned v ∧ w' = w) : SCall Γ f args L (fun v' L' => v' = v ∧ L' = L) := fun w hi =>
  (h w hi).mono fun e w' ⟨he, hw⟩ => ⟨v, L, he, hw ▸ hi, rfl, rfl⟩
/-- .. a world that has grown. -/
theorem SCall.of_below {Γ : Ctx} {f : FuncId} {args : Array Value} {L : Hp} {v : Value} (h : ∀ w, Inv Γ L w → Calls Γ.P f args w fun e w' => e = .returned v ∧ Below w.heap.size w w') : SCall Γ f args L (fun v' L' => v' = v ∧ L' = L) := fun w hi =>
  (h w hi).mono fun e w' ⟨he, hw⟩ => ⟨v, L, he, hi.of_below hw, rfl, rfl⟩
/-- .. one block more, which the result shows. -/
theorem SCall.of_alloc {Γ : Ctx} {f : FuncId} {args : Array Value} {L : Hp} {o : Obj} {n c : Nat} (h : ∀ w, Inv Γ L w → Calls Γ.P f args w fun e w' => e = .returned (.slice (some ⟨w.heap.size, 0, none⟩) n c) ∧ w' = w.alloc o) :
    SCall Γ f args L (fun v L' => ∃ b, v = .slice (some ⟨b, 0, none⟩) n c ∧ L' = some (b, o) :: L) := fun w hi =>
  (h w hi).mono fun e w' ⟨he, hw⟩ => ⟨_, _, he, hw ▸ hi.alloc o, _, rfl, rfl⟩
theorem Cell.w0 {Γ : Ctx} {L : Hp} {w : World} {a : Addr} {v : Value} (ho : a.block ∉ Γ.own) (h : Γ.w0.cell? a = some v) (hi : Inv Γ L w) : w.cell? a = some v := (Cell.old (L := L) ho h).real hi
end Go.SX
