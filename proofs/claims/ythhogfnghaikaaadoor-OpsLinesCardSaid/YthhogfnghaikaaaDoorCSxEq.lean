/- A part of the proof of OpsLinesCardSaid. -/
import Derived.Test.YthhogfnghaikaaaDoorCSxNum
set_option linter.unusedVariables false
set_option linter.unusedSimpArgs false
/-! '==' of structs and arrays of whole numbers, bools and strings, to whatever depth. -/
namespace Go.SX
open Go.RowKit
inductive FK where
  | b | i (k : IntKind) | s
  deriving DecidableEq
def okV : FK → Value → Bool
  | .b, .bool _ => true
  | .i k, .int k' n => decide (k' = k) && (Lit.int k n).wf
  | .s, .string s => decide (s.size ≤ maxLen)
  | _, _ => false
def litV : Value → Lit
  | .bool b => .bool b
  | .int k n => .int k n
  | .string s => .string s.data.toList
  | _ => .nil
def okVs : List FK → List Value → Bool
  | [], [] => true
  | k :: ks, v :: vs => okV k v && okVs ks vs
  | _, _ => false
theorem okVs_len : ∀ {ks : List FK} {vs : List Value}, okVs ks vs = true → vs.length = ks.length
  | [], [], _ => rfl
  | k :: ks, v :: vs, h => by
    simp only [okVs, Bool.and_eq_true] at h
    simp [okVs_len h.2]
theorem okVs_app : ∀ {ks ls : List FK} {vs : List Value}, okVs (ks ++ ls) vs = true → okVs ks (vs.take ks.length) = true ∧ okVs ls (vs.drop ks.length) = true
  | [], ls, vs, h => by simpa [okVs] using h
  | k :: ks, ls, v :: vs, h => by
    simp only [List.cons_append, okVs, Bool.and_eq_true] at h
    obtain ⟨h1, h2⟩ := okVs_app h.2
    simp [okVs, h.1, h1, h2]
def fieldsK {F : Type} (nm : F → Bool) (ty off : F → Nat) (g : Nat → Option (List FK)) (co : Nat → Nat) : List F → Nat → Option (List FK)
  | [], _ => some []
  | f :: fs, o => if nm f && off f == o then match g (ty f) with
      | some ks => if ks.length = co (ty f) then (fieldsK nm ty off g co fs (o + ks.length)).map (ks ++ ·) else none
      | none => none
    else none
def flatK (P : Program) : Nat → TypeId → Option (List FK)
  | 0, _ => none
  | d + 1, t => match P.underlying t with
    | some .bool => some [.b]
    | some (.int q) => some [.i q]
    | some .string => some [.s]
    | some (.array n e) => match flatK P d e with
      | some ks => if ks.length = P.cellsOf e ∧ P.cellsOf t = n * ks.length then some (List.replicate n ks).flatten else none
      | none => none
    | some (.struct fs) => match fieldsK (fun f => f.name != "_") (·.type) (·.offset) (flatK P d) P.cellsOf fs.toList 0 with
      | some ks => if ks.length = P.cellsOf t then some ks else none
      | none => none
    | _ => none
theorem fieldsK_all {F : Type} {nm : F → Bool} {ty off : F → Nat} {g : Nat → Option (List FK)} {co : Nat → Nat} : ∀ {fs : List F} {o : Nat} {ks : List FK}, fieldsK nm ty off g co fs o = some ks → fs.all nm = true
  | [], _, _, _ => rfl
  | f :: fs, o, ks, h => by
    simp only [fieldsK] at h
    split at h <;> try (cases h; done)
    rename_i hn
    split at h <;> try (cases h; done)
    split at h <;> try (cases h; done)
    obtain ⟨l, hl, _⟩ := Option.map_eq_some_iff.1 h
    simp only [Bool.and_eq_true] at hn
    simp [hn.1, fieldsK_all hl]
theorem fieldsK_lits {F : Type} {nm : F → Bool} {ty off : F → Nat} {g : Nat → Option (List FK)} {co : Nat → Nat} {kl : Nat → List Value → Option (List Lit)} (hg : ∀ t ks vs, g t = some ks → okVs ks vs = true → kl t vs = some (vs.map litV)) {cs : List Value} :
    ∀ {fs : List F} {o : Nat} {ks : List FK}, fieldsK nm ty off g co fs o = some ks → okVs ks (cs.drop o) = true →
      ∃ ls, fs.mapM (fun f => kl (ty f) ((cs.drop (off f)).take (co (ty f)))) = some ls ∧ ls.flatten = (cs.drop o).map litV
  | [], o, ks, h, hk => by
    simp only [fieldsK, Option.some.injEq] at h
    subst h
    refine ⟨[], rfl, ?_⟩
    have := okVs_len hk
    rw [List.eq_nil_of_length_eq_zero this]
    rfl
  | f :: fs, o, ks, h, hk => by
    simp only [fieldsK] at h
    split at h <;> try (cases h; done)
    rename_i hn
    simp only [Bool.and_eq_true, beq_iff_eq] at hn
    split at h <;> try (cases h; done)
    rename_i k1 hg1
    split at h <;> try (cases h; done)
    rename_i hlen
    obtain ⟨l, hl, rfl⟩ := Option.map_eq_some_iff.1 h
    obtain ⟨h1, h2⟩ := okVs_app hk
    rw [List.drop_drop] at h2
    obtain ⟨ls, hm, hf⟩ := fieldsK_lits hg hl h2
    refine ⟨((cs.drop o).take k1.length).map litV :: ls, ?_, ?_⟩
    · rw [List.mapM_cons, hn.2, ← hlen, hg _ _ _ hg1 h1, hm]
      rfl
    · rw [List.flatten_cons, hf, ← List.map_append, ← List.drop_drop, List.take_append_drop]
theorem flat_rep {ks : List FK} : ∀ {n : Nat} {vs : List Value}, okVs (List.replicate n ks).flatten vs = true → vs.length = n * ks.length ∧ ∀ i, i < n → okVs ks ((vs.drop (i * ks.length)).take ks.length) = true
  | 0, vs, h => by
    have := okVs_len h
    exact ⟨by simpa using this, fun i hi => absurd hi (by omega)⟩
  | n + 1, vs, h => by
    rw [List.replicate_succ, List.flatten_cons] at h
    obtain ⟨h1, h2⟩ := okVs_app h
    obtain ⟨h3, h4⟩ := flat_rep h2
    have h5 := okVs_len h1
    refine ⟨?_, fun i hi => ?_⟩
    · rw [List.length_drop] at h3
      rw [List.length_take] at h5
      have := Nat.add_one_mul n ks.length
      omega
    · cases i with
      | zero => simpa using h1
      | succ i =>
        have := h4 i (by omega)
        rw [List.drop_drop] at this
        rwa [Nat.succ_mul, Nat.add_comm]
theorem flatten_parts {m : Nat} : ∀ (n : Nat) (vs : List Value), vs.length = n * m → ((List.range n).map fun i => ((vs.drop (i * m)).take m).map litV).flatten = vs.map litV
  | 0, vs, h => by
    have : vs = [] := List.eq_nil_of_length_eq_zero (by simpa using h)
    subst this; rfl
  | n + 1, vs, h => by
    have hs := Nat.add_one_mul n m
    rw [List.range_succ_eq_map, List.map_cons, List.map_map, List.flatten_cons]
    have ih := flatten_parts (m := m) n (vs.drop m) (by rw [List.length_drop]; omega)
    have : ((fun i => ((vs.drop (i * m)).take m).map litV) ∘ Nat.succ) = fun i => (((vs.drop m).drop (i * m)).take m).map litV := by
      funext i
      simp only [Function.comp, List.drop_drop, Nat.succ_mul, Nat.add_comm]
    rw [this, ih, Nat.zero_mul, List.drop_zero, ← List.map_append, List.take_append_drop]
theorem keyLits_flat {P : Program} : ∀ (d : Nat) (t : TypeId) (ks : List FK) (vs : List Value), flatK P d t = some ks → okVs ks vs = true → P.keyLits d t vs = some (vs.map litV)
  | 0, _, _, _, h, _ => by cases h
  | d + 1, t, ks, vs, h, hv => by
    have ih := keyLits_flat (P := P) d
    unfold flatK at h
    unfold Program.keyLits
    split at h
    · rename_i hu
      cases h
      rw [hu]
      match vs, hv with
      | [.bool b], _ => rfl
    · rename_i q hu
      cases h
      rw [hu]
      match vs, hv with
      | [.int q' n], hv =>
        simp only [okVs, okV, Bool.and_true, Bool.and_eq_true, decide_eq_true_eq] at hv
        obtain ⟨rfl, hw⟩ := hv
        simp [hw, litV]
      | .int _ _ :: _ :: _, hv => simp [okVs] at hv
    · rename_i hu
      cases h
      rw [hu]
      match vs, hv with
      | [.string s], hv =>
        simp only [okVs, okV, Bool.and_true, decide_eq_true_eq] at hv
        simp [hv, litV]
      | .string _ :: _ :: _, hv => simp [okVs] at hv
    · rename_i n e hu
      split at h <;> try (cases h; done)
      rename_i k1 hk1
      split at h <;> try (cases h; done)
      rename_i hc
      cases h
      obtain ⟨h1, h2⟩ := flat_rep hv
      rw [hu]
      simp only [hc.2, h1, if_true]
      rw [mapM_range (g := (List.range n).map fun i => ((vs.drop (i * k1.length)).take k1.length).map litV) (by simp) (fun i hi => by
        rw [← hc.1, ih _ _ _ hk1 (h2 i hi), List.getElem?_map, List.getElem?_range hi]; rfl)]
      rw [Option.map_some, flatten_parts n vs h1]
    · rename_i fs hu
      split at h <;> try (cases h; done)
      rename_i k1 hk1
      split at h <;> try (cases h; done)
      rename_i hc
      cases h
      rw [hu]
      have hall := fieldsK_all hk1
      obtain ⟨ls, hm, hf⟩ := fieldsK_lits (kl := P.keyLits d) (cs := vs) (fun t ks vs h1 h2 => ih t ks vs h1 h2) hk1 (by simpa using hv)
      have hl := okVs_len hv
      have hall' : fs.all (fun f => f.name != "_") = true := by rw [← Array.all_toList]; exact hall
      simp only [hl, hc, hall', and_self, if_true]
      rw [hm, Option.map_some, hf]
      rfl
    · cases h

/-- A type of which '==' compares such. -/
structure EqT (P : Program) (t : TypeId) (ks : List FK) : Prop where
  key : P.keyTypeAt 9 t = true
  grd : P.eqGuardType P.depth t = false
  flat : flatK P 9 t = some ks
  shape : (match P.underlying t with | some (.struct _) | some (.array _ _) => true | _ => false) = true
  size : P.cellsOf t = ks.length
theorem aggEq_of {P : Program} {t : TypeId} {ks : List FK} {a b : Array Value} {K : Bool → Prop} (h : EqT P t ks) (ha : okVs ks a.toList = true) (hb : okVs ks b.toList = true)
    (hK : ∀ r : Bool, (r = true ↔ a.toList.map litV = b.toList.map litV) → K r) : aggEq P t a b K := by
  have fm : ∀ c : Array Value, okVs ks c.toList = true → (Value.agg c).formed P t = true := fun c hc => by
    have hs := h.shape
    have := okVs_len hc
    unfold Value.formed
    split at hs <;> try (cases hs; done)
    all_goals
      rename_i hu
      simp only [hu]
      rw [h.size, ← this]
      simp
  exact ⟨h.key, h.grd, fm a ha, fm b hb, _, _, keyLits_flat 9 t ks _ h.flat ha, keyLits_flat 9 t ks _ h.flat hb, hK⟩
theorem wf_i64 (n : Int) : (Lit.int .i64 n).wf = decide (-9223372036854775808 ≤ n ∧ n ≤ 9223372036854775807) := by
  show (decide _ && decide _) = _
  rw [Bool.decide_and]; rfl
theorem wf_u8 (n : Int) : (Lit.int .u8 n).wf = decide (0 ≤ n ∧ n ≤ 255) := by
  show (decide _ && decide _) = _
  rw [Bool.decide_and]; rfl
theorem wf_u16 (n : Int) : (Lit.int .u16 n).wf = decide (0 ≤ n ∧ n ≤ 65535) := by
  show (decide _ && decide _) = _
  rw [Bool.decide_and]; rfl
end Go.SX
