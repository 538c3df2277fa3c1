/- A part of the proof of OpsLinesCardSaid. -/
import Derived.Test.YthhogfnghaikaaaDoorCSxNum
import Derived.ProofKit
import Derived.SizedLaws
import Derived.ChangeBears2
import Derived.OpenShut
import Derived.Below
import Derived.ChangeSame
import Derived.Carry
import Derived.ChangeCalls
set_option linter.unusedVariables false
set_option linter.unusedSimpArgs false
/-! The last step of a law that answers true and leaves its arguments as they were. -/
namespace Go.SX
open Go.ChangeShapes Go.WideShapes Go.ChangeAt Go.RowKit
section
variable {H : Type} {enc : TypeId × Value → H} {P : Program}

theorem SCall.below {f : FuncId} {args : Array Value} {W : World} {v : Value} (h : SCall ⟨P, W, []⟩ f args [] (fun v' L' => v' = v ∧ L' = [])) :
    Calls P f args W fun e W' => e = .returned v ∧ Below W.heap.size W W' := by
  have hi : Inv ⟨P, W, []⟩ [] W := ⟨fun i j b o o' h => by simp at h, fun b o h => by simp at h, fun b o h => by simp at h, rfl, rfl, rfl, Nat.le_refl _, fun _ _ _ => rfl⟩
  refine (h W hi).mono ?_
  rintro e w' ⟨v', L', he, hi', rfl, rfl⟩
  exact ⟨he, hi'.os, hi'.tape, hi'.output, hi'.size, fun k hk => hi'.old k hk (by simp)⟩

theorem trodAll_stays (hl : laidOutB P = true) {W W' : World} (hb : Below W.heap.size W W') {sp : Nat → Bool} : ∀ {ts : List TypeId} {vs : List Value} {ds : List (DataW H)} {ps : List MemPlace},
    (∀ t ∈ ts, P.readableRec t = true ∧ t < P.types.size) → DataW.TrodAll enc P W 0 (fun _ => true) true ts vs ds ps → (∀ x ∈ ps, x.block < W.heap.size) → (∀ x ∈ ps, sp x.block = true) → DataW.TrodAll enc P W' 0 sp true ts vs ds ps
  | [], vs, ds, ps, _, h, _, _ => by
    obtain ⟨rfl, rfl, rfl⟩ := trodAll_nil h
    exact trodAll_mk0
  | t :: ts, vs, ds, ps, hr, h, hlt, hsp => by
    cases vs with
    | nil => cases ds <;> exact h.elim
    | cons v vs =>
      cases ds with
      | nil => exact h.elim
      | cons d ds =>
        obtain ⟨p, q, h1, h2, rfl⟩ := h
        have hrt := hr t (List.mem_cons_self ..)
        exact ⟨p, q, WideElems.Trod_stays hl hrt.1 hrt.2 h1 (fun x hx => hb.same (hlt x (List.mem_append_left _ hx))) (fun x hx => hsp x (List.mem_append_left _ hx)),
          trodAll_stays hl hb (fun t ht => hr t (List.mem_cons_of_mem _ ht)) h2 (fun x hx => hlt x (List.mem_append_right _ hx)) (fun x hx => hsp x (List.mem_append_right _ hx)), rfl⟩

/-- A slice of whole numbers that is handed in. -/
theorem open_sl {k : IntKind} {t e : TypeId} {W : World} {base : Nat} {v : Value} {d : DataW H} {p : List MemPlace} (hu : P.underlying t = some (.slice e)) (he : P.underlying e = some (.int k)) (hc : P.cellsOf e = 1)
    (hok : Value.okWide P W .any base t v) (h : DataW.Trod enc P W 0 (fun _ => true) true t v d p) :
    ∃ xs : List Int, SlI k (Cell ⟨P, W, []⟩ []) v xs ∧ (∀ n ∈ xs, (Lit.int k n).wf = true) ∧ xs.length ≤ maxLen := by
  obtain ⟨a0, len, cap, rfl⟩ := okWide_slice hu hok
  obtain ⟨fuel, hf⟩ := h
  rcases open_ints hu he hc hf with ⟨hcs, hx⟩ | ⟨a, len', cap', zs, hcs, _, hl, hm, hz, hx, hcell, hwz⟩
  · simp [Value.cells] at hcs
    obtain ⟨rfl, rfl, rfl⟩ := hcs
    exact ⟨[], ⟨none, 0, rfl, Nat.le_refl _, fun j x hj => by simp at hj⟩, fun n hn => by simp at hn, Nat.zero_le _⟩
  · simp [Value.cells] at hcs
    obtain ⟨rfl, rfl, rfl⟩ := hcs
    simp only [if_true] at hz
    have hlen : (zs.take len).length = len := by rw [List.length_take]; omega
    refine ⟨zs.take len, ⟨some a, cap, by rw [hlen], by omega, fun j x hj => ⟨a, rfl, ?_⟩⟩, fun n hn => hwz n (List.mem_of_mem_take hn), by omega⟩
    have hjl : j < len := by have := (List.getElem?_eq_some_iff.1 hj).1; omega
    have h1 := hcell j (by omega)
    rw [List.getElem?_take, if_pos hjl] at hj
    rw [List.getD_eq_getElem?_getD, hj] at h1
    show Cell _ _ _ _
    rw [Nat.mul_one]
    exact Cell.old (by simp) h1
/-- A slice of whole numbers out of its own cell. -/
theorem open_slv {k : IntKind} {t e : TypeId} {W : World} {v : Value} {n : Nat} {y : DataW H × List MemPlace} (hu : P.underlying t = some (.slice e)) (he : P.underlying e = some (.int k)) (hc : P.cellsOf e = 1)
    (hf : DataW.trod enc P W 0 (fun _ => true) true n t [v] = some y) :
    ∃ xs : List Int, SlI k (Cell ⟨P, W, []⟩ []) v xs ∧ (∀ n ∈ xs, (Lit.int k n).wf = true) ∧ xs.length ≤ maxLen := by
  rcases open_ints hu he hc hf with ⟨hcs, hx⟩ | ⟨a, len, cap, zs, hcs, _, hl, hm, hz, hx, hcell, hwz⟩
  · simp at hcs
    subst hcs
    exact ⟨[], ⟨none, 0, rfl, Nat.le_refl _, fun j x hj => by simp at hj⟩, fun n hn => by simp at hn, Nat.zero_le _⟩
  · simp at hcs
    subst hcs
    simp only [if_true] at hz
    have hlen : (zs.take len).length = len := by rw [List.length_take]; omega
    refine ⟨zs.take len, ⟨some a, cap, by rw [hlen], by omega, fun j x hj => ⟨a, rfl, ?_⟩⟩, fun n hn => hwz n (List.mem_of_mem_take hn), by omega⟩
    have hjl : j < len := by have := (List.getElem?_eq_some_iff.1 hj).1; omega
    have h1 := hcell j (by omega)
    rw [List.getElem?_take, if_pos hjl] at hj
    rw [List.getD_eq_getElem?_getD, hj] at h1
    show Cell _ _ _ _
    rw [Nat.mul_one]
    exact Cell.old (by simp) h1
theorem open_u8 {t : TypeId} {W : World} {v : Value} {n : Nat} {y : DataW H × List MemPlace} (hu : P.underlying t = some (.int .u8)) (hf : DataW.trod enc P W 0 (fun _ => true) true n t [v] = some y) :
    ∃ x : Nat, x < 256 ∧ v = .int .u8 (x : Int) := by
  obtain ⟨x, h1, _, h3⟩ := DataW.trod_int hu hf
  simp at h1
  have := bounds_u8 h3
  exact ⟨x.toNat, by omega, by rw [h1]; congr 1; omega⟩
theorem open_str {t : TypeId} {W : World} {base : Nat} {v : Value} {d : DataW H} {p : List MemPlace} (hu : P.underlying t = some .string) (hok : Value.okWide P W .any base t v) (h : DataW.Trod enc P W 0 (fun _ => true) true t v d p) :
    ∃ s : ByteArray, v = .string s ∧ s.size ≤ maxLen := by
  obtain ⟨s, rfl⟩ := okWide_string hu hok
  obtain ⟨fuel, hf⟩ := h
  obtain ⟨s', h1, h2, h3⟩ := DataW.trod_string hu hf
  simp [Value.cells] at h1
  subst h1
  exact ⟨_, rfl, by assumption⟩

theorem law_contract {C : Checked} {f : FuncId} {fn : Func} {s : ChangeSpec} {apart : Bool} {tb : TypeId} (hv : s.vars = []) (hlaid : laidOutB C.prog = true) (hread : fn.params.toList.all (fun t => C.prog.readableRec t && decide (t < C.prog.types.size)) = true)
    (hres : fn.resultTypes = #[tb]) (htb : C.prog.underlying tb = some .bool)
    (hspec : ∀ ds : List (DataW H), ds.length = fn.params.toList.length → s.fn H ds = { results := [.lit (.bool true)], args := ds, vars := [] })
    {W : World} {args : Array Value} {ds gs : List (DataW H)} {before : List MemPlace} (hW : DataW.Whole enc C.prog fn.params.toList s.vars apart W args.toList ds gs before)
    (hcall : ∀ p, DataW.TrodAll enc C.prog W 0 (fun _ => true) true fn.params.toList args.toList ds p → Calls C.prog f args W fun e W' => e = .returned (.bool true) ∧ Below W.heap.size W W') :
    Calls C.prog f args W fun e W' => ∃ v, e = .returned v ∧ s.post enc C.prog fn apart true false false W args v W' := by
  have hW' := hW
  obtain ⟨p, q, hA, hV, rfl, hfz, hnd⟩ := hW
  rw [hv] at hV
  obtain ⟨rfl, rfl⟩ := trodVars_none hV
  simp only [List.append_nil] at hW' hfz hnd
  have hlen : ds.length = fn.params.toList.length := (trodAll_length hA).2
  have hlt : ∀ x ∈ p, x.block < W.heap.size := fun x hx => hW'.lt x hx
  have hread' : ∀ t ∈ fn.params.toList, C.prog.readableRec t = true ∧ t < C.prog.types.size := fun t ht => by
    have := List.all_eq_true.1 hread t ht
    simpa using this
  refine (hcall p hA).mono fun e W' ⟨he, hb⟩ => ?_
  subst he
  have e1 : s.fn H (ds ++ []) = { results := [.lit (.bool true)], args := ds, vars := [] } := by rw [List.append_nil, hspec ds hlen]
  have hok : ∀ (j : Nat) (t : TypeId) (r : Value), fn.resultTypes[j]? = some t → ((Value.bool true).resultList fn.resultTypes.size)[j]? = some r → Value.okWide C.prog W' .any 0 t r := ok_one hres rfl (okWide_bool_mk htb _)
  have hr0 : ∀ (b : Nat) (sp : Nat → Bool) (hd : Bool), DataW.TrodAll enc C.prog W' b sp hd fn.resultTypes.toList ((Value.bool true).resultList fn.resultTypes.size) (s.fn H (ds ++ [])).results [] := fun b sp hd => by
    rw [e1, hres]
    exact trodAll_cons_mk (shut_bool htb _) trodAll_mk0
  have ha0 : ∀ sp : Nat → Bool, (∀ x ∈ p, sp x.block = true) → DataW.TrodAll enc C.prog W' 0 sp true fn.params.toList args.toList (s.fn H (ds ++ [])).args p := fun sp hsp => by
    rw [e1]
    exact trodAll_stays hlaid hb hread' hA hlt hsp
  have hold : ∀ x ∈ p, (fun b => decide (b < W.heap.size)) x.block = true := fun x hx => by simpa using hlt x hx
  have hv0 : ∀ sp : Nat → Bool, DataW.TrodVars enc C.prog W' sp s.vars (s.fn H (ds ++ [])).vars [] := fun sp => by rw [hv, e1]; rfl
  refine ⟨_, rfl, ds, [], p, [], p, [], by simpa using hW', hr0 _ _ _, ha0 _ hold, hv0 _, World.keptBut_mono (fun x hx => ⟨hx, ?_⟩) (hb.frame (· ∈ p)), fun _ => ?_⟩
  · simpa using hx
  · obtain ⟨_, _, _, _, _, hz, hn⟩ := hW'
    refine ⟨hok, _, _, ([] ++ p) ++ [], ⟨[] ++ p, [], trodAll_append (ha0 _ (fun _ _ => rfl)) (hr0 _ _ _), hv0 _, rfl, ?_, ?_⟩, ?_⟩
    · intro b off hp
      have hin : MemPlace.cell b off ∈ p := by simpa using hp
      rw [hb.frozen (hlt _ hin)]
      exact hz b off hin
    · intro ha
      have := hn ha
      simpa using this
    · intro x hx _
      simpa using hx

theorem law_lifted {C : Checked} {a : Assume} {os : Os} {f : FuncId} {fn : Func} {s : ChangeSpec} {conds : List PathCond} {apart : Bool} {tb : TypeId}
    (own : ownKnob C.prog.godebug = none) (started : os.Started) (noInit : C.prog.inits.idxOf? f = none) (hfn : C.prog.funcs[f]? = some fn)
    (witness : ∃ (w : World) (tape : Tape) (i : Input), w.os = os ∧ (w.forCall tape i).Shaped C.prog ∧ i.vars = [] ∧ Input.okWide C.prog (w.forCall tape i) .any w.heap.size f i ∧
      s.pre6 enc C.prog fn conds apart (w.forCall tape i).memory i.args ∧ a.holds C.prog (lone (Frame.enter C.prog f i.args .normal) [] (w.forCall tape i)))
    (hv : s.vars = []) (hlaid : laidOutB C.prog = true) (hread : fn.params.toList.all (fun t => C.prog.readableRec t && decide (t < C.prog.types.size)) = true)
    (hres : fn.resultTypes = #[tb]) (htb : C.prog.underlying tb = some .bool)
    (hspec : ∀ ds : List (DataW H), ds.length = fn.params.toList.length → s.fn H ds = { results := [.lit (.bool true)], args := ds, vars := [] })
    (hwalk : ∀ (W : World) (base : Nat) (args : Array Value) (ds : List (DataW H)) (p : List MemPlace), (∀ (j : Nat) t v, fn.params[j]? = some t → args[j]? = some v → Value.okWide C.prog W .any base t v) →
      DataW.TrodAll enc C.prog W 0 (fun _ => true) true fn.params.toList args.toList ds p → Calls C.prog f args W fun e W' => e = .returned (.bool true) ∧ Below W.heap.size W W') :
    ReturnsInHanded a C os f .any (s.pre6 enc C.prog fn conds apart) (s.post enc C.prog fn apart true false false) := by
  refine returnsInHanded_of_change own started noInit hfn witness ?_
  intro W base args ds gs before hval hW _ _
  exact law_contract hv hlaid hread hres htb hspec hW fun p hA => hwalk W base args ds p hval hA
end
end Go.SX
