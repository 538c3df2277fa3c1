/- A part of the proof of OpsLinesCardSaid. -/
import Derived.Test.YthhogfnghaikaaaDoorCSxEnd
import Derived.Test.YthhogfnghaikaaaDoorCSxEq
import Derived.Test.YthhogfnghaikaaaDoorCSxLaid
set_option linter.unusedVariables false
set_option linter.unusedSimpArgs false
/-! What is handed in, of types of whole numbers, bools and strings (structs and arrays of such, slices of these). -/
namespace Go.SX
open Go.ChangeShapes Go.WideShapes Go.ChangeAt Go.RowKit
section
variable {H : Type} {enc : TypeId × Value → H} {P : Program}
theorem okVs_mk : ∀ {ks ls : List FK} {vs : List Value}, okVs ks (vs.take ks.length) = true → okVs ls (vs.drop ks.length) = true → okVs (ks ++ ls) vs = true
  | [], ls, vs, _, h => by simpa using h
  | k :: ks, ls, [], h, _ => by simp [okVs] at h
  | k :: ks, ls, v :: vs, h, h2 => by
    simp only [List.length_cons, List.take_succ_cons, okVs, Bool.and_eq_true, List.drop_succ_cons] at h h2
    simp [okVs, h.1, okVs_mk h.2 h2]
theorem flat_rep_mk {ks : List FK} : ∀ {n : Nat} {vs : List Value}, vs.length = n * ks.length → (∀ i, i < n → okVs ks ((vs.drop (i * ks.length)).take ks.length) = true) → okVs (List.replicate n ks).flatten vs = true
  | 0, vs, h, _ => by
    have : vs = [] := List.eq_nil_of_length_eq_zero (by simpa using h)
    subst this; rfl
  | n + 1, vs, h, hp => by
    have hs := Nat.add_one_mul n ks.length
    rw [List.replicate_succ, List.flatten_cons]
    refine okVs_mk (by simpa using hp 0 (by omega)) (flat_rep_mk (by rw [List.length_drop]; omega) fun i hi => ?_)
    have := hp (i + 1) (by omega)
    rw [List.drop_drop]
    rwa [Nat.add_one_mul, Nat.add_comm] at this
theorem fieldsK_mk {F : Type} {nm : F → Bool} {ty off : F → Nat} {g : Nat → Option (List FK)} {co : Nat → Nat} {cs : List Value} :
    ∀ {fs : List F} {o : Nat} {ks : List FK}, fieldsK nm ty off g co fs o = some ks → cs.length = o + ks.length →
      (∀ f ∈ fs, ∀ k1, g (ty f) = some k1 → okVs k1 ((cs.drop (off f)).take (co (ty f))) = true) → okVs ks (cs.drop o) = true
  | [], o, ks, h, hl, _ => by
    simp only [fieldsK, Option.some.injEq] at h
    subst h
    have : cs.drop o = [] := List.drop_of_length_le (by simp at hl; omega)
    rw [this]; rfl
  | f :: fs, o, ks, h, hl, hp => by
    simp only [fieldsK] at h
    split at h <;> try (cases h; done)
    rename_i hn
    simp only [Bool.and_eq_true, beq_iff_eq] at hn
    split at h <;> try (cases h; done)
    rename_i k1 hg1
    split at h <;> try (cases h; done)
    rename_i hlen
    obtain ⟨l, hll, rfl⟩ := Option.map_eq_some_iff.1 h
    have h1 := hp f (List.mem_cons_self ..) k1 hg1
    rw [← hlen, hn.2] at h1
    refine okVs_mk h1 ?_
    rw [List.drop_drop]
    exact fieldsK_mk hll (by rw [List.length_append] at hl; omega) fun f' hf' => hp f' (List.mem_cons_of_mem _ hf')
theorem fieldsK_off {F : Type} {nm : F → Bool} {ty off : F → Nat} {g : Nat → Option (List FK)} {co : Nat → Nat} : ∀ {fs : List F} {o : Nat} {ks : List FK}, fieldsK nm ty off g co fs o = some ks → ∀ f ∈ fs, ∃ k1, g (ty f) = some k1
  | [], _, _, _, f, hf => by cases hf
  | f :: fs, o, ks, h, f', hf => by
    simp only [fieldsK] at h
    split at h <;> try (cases h; done)
    split at h <;> try (cases h; done)
    rename_i k1 hg1
    split at h <;> try (cases h; done)
    obtain ⟨l, hll, _⟩ := Option.map_eq_some_iff.1 h
    rcases List.mem_cons.1 hf with rfl | hf
    · exact ⟨k1, hg1⟩
    · exact fieldsK_off hll f' hf
theorem trod_flat {w : World} {base : Nat} {spare : Nat → Bool} {held : Bool} : ∀ (d : Nat) (t : TypeId) (ks : List FK) (fuel : Nat) (cs : List Value) (x : DataW H × List MemPlace), flatK P d t = some ks →
    DataW.trod enc P w base spare held fuel t cs = some x → okVs ks cs = true
  | 0, _, _, _, _, _, h, _ => by cases h
  | d + 1, t, ks, fuel, cs, x, h, ht => by
    unfold flatK at h
    split at h
    · rename_i hu
      cases h
      obtain ⟨b, rfl, _⟩ := DataW.trod_bool hu ht
      rfl
    · rename_i q hu
      cases h
      obtain ⟨n, rfl, _, hw⟩ := DataW.trod_int hu ht
      simp [okVs, okV, hw]
    · rename_i hu
      cases h
      obtain ⟨s, rfl, _, hs⟩ := DataW.trod_string hu ht
      simp [okVs, okV, hs]
    · rename_i n e hu
      split at h <;> try (cases h; done)
      rename_i k1 hk1
      split at h <;> try (cases h; done)
      rename_i hc
      cases h
      obtain ⟨xs, m, _, _, hl, hxl, hp⟩ := DataW.trod_array hu ht
      refine flat_rep_mk (by rw [hl, hc.2]) fun i hi => ?_
      have h1 := hp i hi
      rw [List.getElem?_eq_getElem (by omega)] at h1
      have := trod_flat d e k1 _ _ _ hk1 h1
      rwa [← hc.1] at this
    · rename_i fs hu
      split at h <;> try (cases h; done)
      rename_i k1 hk1
      split at h <;> try (cases h; done)
      rename_i hc
      cases h
      obtain ⟨xs, m, _, _, hl, hxl, hp⟩ := DataW.trod_struct hu ht
      have := fieldsK_mk (cs := cs) hk1 (by rw [hl, hc]; omega) fun f hf k2 hk2 => by
        obtain ⟨i, hi⟩ := List.mem_iff_getElem?.1 hf
        have hi' : fs[i]? = some f := by rw [← Array.getElem?_toList]; exact hi
        have h1 := hp i f hi'
        have hil : i < xs.length := by have := (Array.getElem?_eq_some_iff.1 hi').1; omega
        rw [List.getElem?_eq_getElem hil] at h1
        exact trod_flat d _ k2 _ _ _ hk2 h1
      simpa using this
    · cases h
theorem okVs_i {k : IntKind} {ks : List FK} {vs : List Value} (h : okVs (.i k :: ks) vs = true) : ∃ n vs', vs = .int k n :: vs' ∧ (Lit.int k n).wf = true ∧ okVs ks vs' = true := by
  match vs, h with
  | .int k' n :: vs', h =>
    simp only [okVs, okV, Bool.and_eq_true, decide_eq_true_eq] at h
    obtain ⟨⟨rfl, h1⟩, h2⟩ := h
    exact ⟨n, vs', rfl, h1, h2⟩
theorem okVs_b {ks : List FK} {vs : List Value} (h : okVs (.b :: ks) vs = true) : ∃ b vs', vs = .bool b :: vs' ∧ okVs ks vs' = true := by
  match vs, h with
  | .bool b :: vs', h => exact ⟨b, vs', rfl, by simpa [okVs, okV] using h⟩
theorem okVs_s {ks : List FK} {vs : List Value} (h : okVs (.s :: ks) vs = true) : ∃ s vs', vs = .string s :: vs' ∧ s.size ≤ maxLen ∧ okVs ks vs' = true := by
  match vs, h with
  | .string s :: vs', h =>
    simp only [okVs, okV, Bool.and_eq_true, decide_eq_true_eq] at h
    exact ⟨s, vs', rfl, h⟩
theorem okVs_nil {vs : List Value} (h : okVs [] vs = true) : vs = [] := by
  match vs, h with
  | [], _ => rfl
/-- A struct or array that is handed in. -/
theorem open_flat {t : TypeId} {ks : List FK} {W : World} {v : Value} {d : DataW H} {p : List MemPlace} (hk : flatK P 9 t = some ks) (h : DataW.Trod enc P W 0 (fun _ => true) true t v d p) : okVs ks v.cells.toList = true := by
  obtain ⟨fuel, hf⟩ := h
  exact trod_flat 9 t ks _ _ _ hk hf
/-- What lies in one element: its cells. -/
def RS {α : Type} (f : α → List Value) : (Addr → Value → Prop) → Addr → α → Prop := fun C a x => ∀ i u, (f x)[i]? = some u → C (a.add i) u
abbrev SlS {α : Type} (sz : Nat) (f : α → List Value) := Sl sz (RS f)
theorem cells_at {w : World} {base : Nat} {a : Addr} {n : Nat} {cs : List Value} (h : w.cells? base a n = some cs) : cs.length = n ∧ ∀ i u, cs[i]? = some u → w.cell? (a.add i) = some u := by
  unfold World.cells? at h
  split at h
  · have hl := mapM_some_length h
    rw [List.length_range] at hl
    refine ⟨hl, fun i u hi => ?_⟩
    have hin : i < n := by have := (List.getElem?_eq_some_iff.1 hi).1; omega
    have := mapM_some_get h i i (by rw [List.getElem?_range hin])
    rw [hi] at this
    exact this
  · cases h
/-- A slice of such that is handed in, out of its own cell. -/
theorem open_slsv {t e : TypeId} {ks : List FK} {W : World} {v : Value} {n : Nat} {y : DataW H × List MemPlace} (hu : P.underlying t = some (.slice e)) (hk : flatK P 9 e = some ks) (hc : P.cellsOf e = ks.length)
    (hf : DataW.trod enc P W 0 (fun _ => true) true n t [v] = some y) :
    ∃ xs : List (List Value), SlS ks.length id (Cell ⟨P, W, []⟩ []) v xs ∧ (∀ r ∈ xs, okVs ks r = true) ∧ xs.length ≤ maxLen := by
  rcases DataW.trod_slice hu hf with ⟨hcs, hx⟩ | ⟨a, len, cap, elems, rest, m, _, hcs, _, _, hl, hm, hel, hp, _⟩
  · simp at hcs
    subst hcs
    exact ⟨[], ⟨none, 0, rfl, Nat.le_refl _, fun j x hj => by simp at hj⟩, fun n hn => by simp at hn, Nat.zero_le _⟩
  · simp at hcs
    subst hcs
    have key : ∀ i, i < len → ∃ cs, W.cells? 0 (a.add (i * ks.length)) ks.length = some cs ∧ okVs ks cs = true := fun i hi => by
      have h1 := hp i hi
      rw [List.getElem?_eq_getElem (by omega), hc] at h1
      obtain ⟨cs, h2, h3⟩ := Option.bind_eq_some_iff.1 h1
      exact ⟨cs, h2, trod_flat 9 e ks _ _ _ hk h3⟩
    let rows : List (List Value) := (List.range len).map fun i => (W.cells? 0 (a.add (i * ks.length)) ks.length).getD []
    have hrow : ∀ (i : Nat) (r : List Value), rows[i]? = some r → W.cells? 0 (a.add (i * ks.length)) ks.length = some r ∧ okVs ks r = true := fun i r hr => by
      have hi : i < len := by have := (List.getElem?_eq_some_iff.1 hr).1; simpa [rows] using this
      simp only [rows, List.getElem?_map, List.getElem?_range hi, Option.map_some, Option.some.injEq] at hr
      obtain ⟨cs, h1, h2⟩ := key i hi
      rw [h1] at hr
      simp only [Option.getD_some] at hr
      subst hr
      exact ⟨h1, h2⟩
    have hrl : rows.length = len := by simp [rows]
    refine ⟨rows, ⟨some a, cap, by rw [hrl], by omega, fun j r hr => ⟨a, rfl, fun i u hi => ?_⟩⟩, fun r hr => ?_, by omega⟩
    · exact Cell.old (by simp) ((cells_at (hrow j r hr).1).2 i u hi)
    · obtain ⟨i, hi⟩ := List.mem_iff_getElem?.1 hr
      exact (hrow i r hi).2
theorem open_sls {t e : TypeId} {ks : List FK} {W : World} {base : Nat} {v : Value} {d : DataW H} {p : List MemPlace} (hu : P.underlying t = some (.slice e)) (hk : flatK P 9 e = some ks) (hc : P.cellsOf e = ks.length)
    (hok : Value.okWide P W .any base t v) (h : DataW.Trod enc P W 0 (fun _ => true) true t v d p) :
    ∃ xs : List (List Value), SlS ks.length id (Cell ⟨P, W, []⟩ []) v xs ∧ (∀ r ∈ xs, okVs ks r = true) ∧ xs.length ≤ maxLen := by
  obtain ⟨a0, len, cap, rfl⟩ := okWide_slice hu hok
  obtain ⟨fuel, hf⟩ := h
  exact open_slsv hu hk hc hf
end
end Go.SX
namespace Go.SX
open Go.ChangeShapes Go.WideShapes Go.ChangeAt Go.RowKit
theorem laid_vars {P : Program} {W : World} : ∀ {laid : List (String × DataW Unit)} {ps : List MemPlace} {n : String} {d : DataW Unit}, DataW.LaidVars P W laid ps → (n, d) ∈ laid → ∃ (g : Nat) (t : TypeId) (cs : Array Value) (f : Nat) (p : List MemPlace),
    P.globalNamed n = some g ∧ (P.globals[g]?).map (·.type) = some t ∧ W.var? P n = some cs ∧ DataW.trod (fun _ => ()) P W 0 (fun _ => true) false f t cs.toList = some (d, p)
  | [], _, _, _, _, h => by cases h
  | (m, e) :: r, ps, n, d, hl, h => by
    obtain ⟨g, t, cs, f, p, q, h1, h2, h3, h4, h5, _⟩ := hl
    rcases List.mem_cons.1 h with h | h
    · cases h; exact ⟨g, t, cs, f, p, h1, h2, h3, h4⟩
    · exact laid_vars h5 h
theorem laid_var {P : Program} {W : World} {laid : List (String × DataW Unit)} {n : String} {d : DataW Unit} {g : Nat} {t : TypeId} (hp : (laid.all fun x => x.2.handleName?.isNone) = true) (hL : laidMetH P laid W) (hm : (n, d) ∈ laid)
    (hg : P.globalNamed n = some g) (ht : (P.globals[g]?).map (·.type) = some t) : ∃ (cs : List Value) (f : Nat) (p : List MemPlace), DataW.trod (fun _ => ()) P W 0 (fun _ => true) false f t cs = some (d, p) ∧ ∀ j, W.cell? ⟨g, j, none⟩ = cs[j]? := by
  rw [MakeChecks.laidMetH_plain _ _ _ hp] at hL
  obtain ⟨ps, h, _⟩ := hL
  obtain ⟨g', t', cs, f, p, h1, h2, h3, h4⟩ := laid_vars h hm
  obtain rfl := Option.some.inj (hg.symm.trans h1)
  obtain rfl := Option.some.inj (ht.symm.trans h2)
  exact ⟨cs.toList, f, p, h4, fun j => by rw [World.var?_cell h1 h3 j, Array.getElem?_toList]⟩
end Go.SX
