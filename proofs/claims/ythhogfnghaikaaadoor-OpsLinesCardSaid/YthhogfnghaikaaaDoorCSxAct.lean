/- A part of the proof of OpsLinesCardSaid. -/
import Derived.Test.YthhogfnghaikaaaDoorCSxQuiet
import Derived.Lib.ConvBytes
import Derived.Laws.RangeAny
set_option linter.unusedVariables false
set_option linter.unusedSimpArgs false
namespace Go.SX
open Go.RowKit

/-- 'append(s, x..)', 'copy(s, x)': what they come to. -/
def YAppend (Γ : Ctx) (ty tx : TypeId) (s x : Value) (L : Hp) (K : Value → Hp → Prop) : Prop :=
  ∀ w, Inv Γ L w → ∃ v w' L', (∀ t, (Builtin.append_ #[ty, tx] t #[s, x]).run Γ.P w = .ok v w') ∧ Inv Γ L' w' ∧ K v L'
def YCopy (Γ : Ctx) (ty tx : TypeId) (s x : Value) (L : Hp) (K : Value → Hp → Prop) : Prop :=
  ∀ w, Inv Γ L w → ∃ v w' L', (∀ t, (Builtin.copy_ #[ty, tx] t #[s, x]).run Γ.P w = .ok v w') ∧ Inv Γ L' w' ∧ K v L'

def oneB (l : List Value) : Bool := l.all Value.oneCell'
def storeVC (Γ : Ctx) (t : TypeId) (a : Addr) (v : Value) (L : Hp) (K : Hp → Prop) : Prop :=
  (szA Γ.P t).map (·.1) = some v.cells.size ∧ oneB v.cells.toList = true ∧ a.spot = none ∧
  ∃ (i : Nat) (cs : List Value) (t' : TypeId) (fr : Nat × Nat), L[i]? = some (some (a.block, .cells cs.toArray t' fr)) ∧ a.off + v.cells.size ≤ cs.length ∧ (a.off + v.cells.size ≤ fr.1 ∨ fr.2 ≤ a.off) ∧
    K (L.set i (some (a.block, .cells (setN cs a.off v.cells.toList).toArray t' fr)))
/-- The parts of a literal in their order, all of them. -/
def inOrd (sz : Nat) : Nat → List (Nat × Value) → Bool
  | _, [] => true
  | k, (i, v) :: rest => i == k && v.cells.size == sz && inOrd sz (k + 1) rest
def catV (parts : List (Nat × Value)) : List Value := parts.flatMap fun p => p.2.cells.toList
def zerosV (z : List Value) (k : Nat) : List Value := (List.replicate k z).flatten
def bytesV (s : ByteArray) : List Value := s.data.toList.map fun b => Value.int .u8 (b.toNat : Int)

def stVC (Γ : Ctx) (t : TypeId) (p v : Value) (L : Hp) (K : Hp → Prop) (D : Prop) : Prop := match p with | .pointer (some a) => storeVC Γ t a v L K | _ => D
def mkVC (Γ : Ctx) (t : TypeId) (l c : Value) (L : Hp) (K : Value → Hp → Prop) (D : Prop) : Prop :=
  match l, c with
  | .int _ n, .int _ m => match elS Γ.P t with
    | some (e, sz, by_) => match zr Γ.P e with
      | some z => (0 ≤ n ∧ n ≤ m ∧ m * by_ ≤ 281474976710656 ∧ m ≤ 9223372036854775807 ∧ z.length = sz) ∧
          ∀ b, K (.slice (some ⟨b, 0, none⟩) n.toNat m.toNat) (some (b, .cells (zerosV z m.toNat).toArray e (0, 0)) :: L)
      | none => D
    | none => D
  | _, _ => D
def cvVC (Γ : Ctx) (s d : TypeId) (v : Value) (L : Hp) (K : Value → Hp → Prop) (D1 D2 : Prop) : Prop :=
  match v with
  | .string str => match Γ.P.underlying s, Γ.P.underlying d with
    | some _, some (.slice e) => Γ.P.underlying e = some (.int .u8) ∧ ∀ b cap, str.size ≤ cap →
        K (.slice (some ⟨b, 0, none⟩) str.size cap) (some (b, .cells (bytesV str ++ List.replicate (cap - str.size) (Value.int .u8 0)).toArray e (cap, cap + 1)) :: L)
    | some _, some .string => K (.string str) L
    | _, _ => D1
  | _ => D2
def callVC (Γ : Ctx) (f : Value) (args : Array Value) (L : Hp) (K : Value → Hp → Prop) (D : Prop) : Prop :=
  match f with
  | .func (.func k) first cap => callable Γ.P k = true ∧ SCall Γ k (first ++ args ++ cap) L K
  | _ => D

def rgVC (Γ : Ctx) (t : TypeId) (x : Value) (L : Hp) (K : Value → Hp → Prop) (D : Prop) : Prop := match x with
  | .string s => Γ.P.underlying t = some .string ∧ ∀ b, K (.pointer (some ⟨b, 0, none⟩)) (some (b, .stringIter s 0) :: L)
  | _ => D
def nxVC (x : Value) (L : Hp) (K : Value → Hp → Prop) (D : Prop) : Prop := match x with
  | .pointer (some ⟨b, 0, _⟩) => ∃ (i : Nat) (s : ByteArray) (pos : Nat), L[i]? = some (some (b, .stringIter s pos)) ∧
      if pos < s.size then K (.tuple #[.bool true, .int .i64 pos, .int .i32 (Utf8.decode s pos).1]) (L.set i (some (b, .stringIter s (pos + (Utf8.decode s pos).2)))) else K (.tuple #[.bool false]) L
  | _ => D
def mapPut (es : List MapEntry) (ck : Nat) (k v : Value) : Option (Nat × Value) → Obj
  | some (j, _) => .map (es.modify j fun e => { e with key := k, val := v }).toArray ck
  | none => .map (es ++ [({ key := k, val := v, born := ck } : MapEntry)]).toArray (ck + 1)
def muVC (Γ : Ctx) (t : TypeId) (m k v : Value) (L : Hp) (K : Hp → Prop) (D : Prop) : Prop := match m with
  | .map (some r) => ∃ kd z, mapT Γ.P t = some (kd, z) ∧ ∃ (i : Nat) (es : List MapEntry) (ck : Nat), L[i]? = some (some (r, .map es.toArray ck)) ∧ ∃ fr, Instr.findNow kd k es 0 = some fr ∧ K (L.set i (some (r, mapPut es ck k v fr)))
  | _ => D

/-- One operation. -/
def VC (Γ : Ctx) (o : Oper) (T : Env) (L : Hp) (K : Value → Hp → Prop) : Prop :=
  match o.op with
  | .alloc t => match zr Γ.P t with
    | some z => ∀ b, K (.pointer (some ⟨b, 0, none⟩)) (some (b, .cells z.toArray t (0, 0)) :: L)
    | none => Yields Γ o T L K
  | .box t x => ∀ b, K (.pointer (some ⟨b, 0, none⟩)) (some (b, .cells (ev T x).cells t (0, 0)) :: L)
  | .store t a x => stVC Γ t (ev T a) (ev T x) L (K undef) False
  | .buildSlice t len parts => match elS Γ.P t with
    | some (e, sz, _) => (inOrd sz 0 (parts.toList.map fun p => (p.1, ev T p.2)) = true ∧ parts.size = len ∧ len * sz ≤ 16777216 ∧ (zr Γ.P e).map List.length = some sz) ∧
        ∀ b, K (.slice (some ⟨b, 0, none⟩) len len) (some (b, .cells (catV (parts.toList.map fun p => (p.1, ev T p.2))).toArray e (0, 0)) :: L)
    | none => Yields Γ o T L K
  | .makeSlice t l c => mkVC Γ t (ev T l) (ev T c) L K False
  | .range t x => rgVC Γ t (ev T x) L K False
  | .next x true => nxVC (ev T x) L K False
  | .makeMap t none => ∀ b, K (.map (some b)) (some (b, .map #[] 0) :: L)
  | .mapUpdate t m k x => muVC Γ t (ev T m) (ev T k) (ev T x) L (K undef) False
  | .insert t m k x => muVC Γ t (ev T m) (ev T k) (ev T x) L (K undef) False
  | .convert s d x => cvVC Γ s d (ev T x) L K False (VQ Γ o T L (fun v => K v L))
  | .call c => match c.callee, c.args.toList, c.argTypes.toList with
    | .builtin .append, [s, x], [ty, tx] => YAppend Γ ty tx (ev T s) (ev T x) L K
    | .builtin .copy, [s, x], [ty, tx] => YCopy Γ ty tx (ev T s) (ev T x) L K
    | .value f, _, _ => callVC Γ (ev T f) (c.args.map (ev T)) L K False
    | _, _, _ => VQ Γ o T L (fun v => K v L)
  | _ => VQ Γ o T L (fun v => K v L)

section
variable {Γ : Ctx} {T : Env} {L : Hp}

theorem Yields.value {o : Oper} {K : Value → Hp → Prop} (h : ∀ w, Inv Γ L w → ∃ v w' L', (execOp (ev T) o).run Γ.P w = .ok (.value v) w' ∧ Inv Γ L' w' ∧ K v L') : Yields Γ o T L K := fun w hi => by
  obtain ⟨v, w', L', hr, hi', hk⟩ := h w hi
  rw [hr]
  exact ⟨L', hi', hk⟩
theorem Yields.skip {o : Oper} {K : Value → Hp → Prop} (h : ∀ w, Inv Γ L w → ∃ w' L', (execOp (ev T) o).run Γ.P w = .ok .skip w' ∧ Inv Γ L' w' ∧ K undef L') : Yields Γ o T L K := fun w hi => by
  obtain ⟨w', L', hr, hi', hk⟩ := h w hi
  rw [hr]
  exact ⟨L', hi', hk⟩

/-- Stores into one block. -/
theorem run_storeCells {P : Program} : ∀ (vs : List Value) (w : World) (b off k : Nat) (cs : List Value) (t : TypeId) (fr : Nat × Nat),
    w.heap[b]? = some (.cells cs.toArray t fr) → off + k + vs.length ≤ cs.length → (off + k + vs.length ≤ fr.1 ∨ fr.2 ≤ off + k) → oneB vs = true →
    ∃ w', (storeCells ⟨b, off, none⟩ vs k).run P w = .ok () w' ∧ w'.heap[b]? = some (.cells (setN cs (off + k) vs).toArray t fr) ∧ (∀ j, j ≠ b → w'.heap[j]? = w.heap[j]?) ∧ w'.heap.size = w.heap.size ∧ w'.os = w.os ∧ w'.tape = w.tape ∧ w'.output = w.output := by
  intro vs
  induction vs with
  | nil => intro w b off k cs t fr hb _ _ _; exact ⟨w, by simp [storeCells], hb, fun _ _ => rfl, rfl, rfl, rfl, rfl⟩
  | cons v vs ih =>
    intro w b off k cs t fr hb hl hf h1
    simp only [List.length_cons] at hl hf
    simp only [oneB, List.all_cons, Bool.and_eq_true] at h1
    have hcell : w.cell? ⟨b, off + k, none⟩ = some (cs[off + k]'(by omega)) := by
      simp [World.cell?, hb, show off + k < cs.length by omega]
    have hfz : w.frozen? ⟨b, off + k, none⟩ = false := by
      simp only [World.frozen?, hb]
      simp only [Bool.and_eq_false_iff, decide_eq_false_iff_not]
      omega
    have hset : (w.setCell ⟨b, off + k, none⟩ v).heap[b]? = some (.cells (cs.set (off + k) v).toArray t fr) := by
      simp [World.setCell, Array.getElem?_modify, hb]
    obtain ⟨w', hr, hb', ho, hs, e1, e2, e3⟩ := ih (w.setCell ⟨b, off + k, none⟩ v) b off (k + 1) (cs.set (off + k) v) t fr hset (by simp; omega) (by omega) h1.2
    refine ⟨w', ?_, by simpa [setN, Nat.add_assoc] using hb', fun j hj => ?_, ?_, e1, e2, e3⟩
    · simp only [storeCells, Sem.run_bind]
      rw [Addr.add_lit, run_store _ _ _ _ _ h1.1]
      simp only [stored, hcell, hfz, Bool.false_eq_true, if_false, Result.andThen_ok]
      exact hr
    · rw [ho j hj]
      exact Below.heap_setCell _ _ _ _ hj
    · rw [hs]
      exact World.size_setCell _ _ _

theorem run_storeVar {P : Program} {t : TypeId} {a : Addr} {v : Value} {w : World} {cs : List Value} {t' : TypeId} {fr : Nat × Nat} (hs : (szA P t).map (·.1) = some v.cells.size) (h1 : oneB v.cells.toList = true) (hsp : a.spot = none)
    (hb : w.heap[a.block]? = some (.cells cs.toArray t' fr)) (hl : a.off + v.cells.size ≤ cs.length) (hf : a.off + v.cells.size ≤ fr.1 ∨ fr.2 ≤ a.off) :
    ∃ w', (storeVar t a v).run P w = .ok () w' ∧ w'.heap[a.block]? = some (.cells (setN cs a.off v.cells.toList).toArray t' fr) ∧ (∀ j, j ≠ a.block → w'.heap[j]? = w.heap[j]?) ∧ w'.heap.size = w.heap.size ∧ w'.os = w.os ∧ w'.tape = w.tape ∧ w'.output = w.output := by
  obtain ⟨⟨n, ag⟩, hsz, hn⟩ := Option.map_eq_some_iff.1 hs
  simp only at hn
  obtain ⟨b, off, sp⟩ := a
  simp only at hsp
  subst hsp
  obtain ⟨w', hr, h2, h3⟩ := run_storeCells (P := P) v.cells.toList w b off 0 cs t' fr hb (by simpa using hl) (by simpa using hf) h1
  refine ⟨w', ?_, by simpa using h2, h3⟩
  unfold storeVar
  simp only [Sem.run_bind, run_sizeOf hsz, Result.andThen_ok]
  rw [if_neg (by simp [hn])]
  simpa using hr

theorem storeVC_sound {t : TypeId} {a : Addr} {v : Value} {K : Hp → Prop} (h : storeVC Γ t a v L K) : ∀ w, Inv Γ L w → ∃ w' L', (storeVar t a v).run Γ.P w = .ok () w' ∧ Inv Γ L' w' ∧ K L' := by
  obtain ⟨hs, h1, hsp, i, cs, t', fr, hi, hl, hf, hk⟩ := h
  intro w hI
  have hb := hI.blk _ _ (List.mem_of_getElem? hi)
  obtain ⟨w', hr, h2, h3, h4, h5, h6, h7⟩ := run_storeVar (P := Γ.P) hs h1 hsp hb hl hf
  exact ⟨w', _, hr, hI.set hi h2 h3 h4 h5 h6 h7, hk⟩

theorem inOrd_fill {sz : Nat} : ∀ (parts : List (Nat × Value)) (k : Nat) (A B : List Value), inOrd sz k parts = true → A.length = k * sz → B.length = parts.length * sz →
    fillL (fun i => some (i * sz, sz)) (A ++ B) parts = some (A ++ catV parts) := by
  have hset : ∀ (vs A B : List Value), vs.length ≤ B.length → setN (A ++ B) A.length vs = A ++ vs ++ B.drop vs.length := by
    intro vs
    induction vs with
    | nil => intro A B _; simp [setN]
    | cons v vs ih =>
      intro A B hl
      cases B with
      | nil => simp at hl
      | cons b B =>
        simp only [setN]
        have e : (A ++ b :: B).set A.length v = (A ++ [v]) ++ B := by simp
        rw [e, show A.length + 1 = (A ++ [v]).length by simp, ih (A ++ [v]) B (by simpa using hl)]
        simp
  intro parts
  induction parts with
  | nil => intro k A B _ _ hB; simp at hB; simp [fillL, catV, hB]
  | cons p rest ih =>
    intro k A B ho hA hB
    obtain ⟨i, v⟩ := p
    simp only [inOrd, Bool.and_eq_true, beq_iff_eq] at ho
    obtain ⟨⟨rfl, hv⟩, ho⟩ := ho
    have hB' : B.length = sz + rest.length * sz := by rw [hB, List.length_cons, Nat.add_mul, Nat.one_mul, Nat.add_comm]
    have hvl : v.cells.toList.length = sz := by simpa using hv
    simp only [fillL]
    rw [if_pos ⟨hv, by simp [hA]; omega⟩]
    have h1 := hset v.cells.toList A B (by omega)
    rw [hA] at h1
    rw [h1]
    have h2 := ih (i + 1) (A ++ v.cells.toList) (B.drop v.cells.toList.length) ho (by rw [List.length_append, hA, hvl, Nat.add_mul, Nat.one_mul]) (by rw [List.length_drop]; omega)
    rw [h2]
    simp [catV]

theorem zerosV_length (z : List Value) (k : Nat) : (zerosV z k).length = k * z.length := by
  induction k with
  | zero => simp [zerosV]
  | succ k ih => simp only [zerosV, List.replicate_succ, List.flatten_cons, List.length_append] at *; rw [ih, Nat.add_mul, Nat.one_mul, Nat.add_comm]
theorem zerosV_at (z : List Value) (k i : Nat) (hi : i < k * z.length) : (zerosV z k)[i]? = z[i % z.length]? := by
  induction k generalizing i with
  | zero => simp at hi
  | succ k ih =>
    simp only [zerosV, List.replicate_succ, List.flatten_cons] at *
    rw [Nat.add_mul, Nat.one_mul] at hi
    have hz : 0 < z.length := by
      rcases Nat.eq_zero_or_pos z.length with h | h
      · rw [h] at hi; simp at hi
      · first | exact h | exact (h : False).elim
    by_cases hlt : i < z.length
    · rw [List.getElem?_append_left hlt, Nat.mod_eq_of_lt hlt]
    · have e : i % z.length = (i - z.length) % z.length := Nat.mod_eq_sub_mod (by omega)
      rw [List.getElem?_append_right (by omega), ih (i - z.length) (by omega), e]
theorem zeros_eq (z : List Value) (n : Nat) (hz : n * z.length = 0 ∨ 0 < z.length) : ((Array.range (n * z.length)).map fun i => z.toArray[i % z.toArray.size]!) = (zerosV z n).toArray := by
  apply Array.ext'
  apply List.ext_getElem?
  intro i
  by_cases hi : i < n * z.length
  · have hlen : 0 < z.length := by
      rcases hz with hz | hz
      · omega
      · exact hz
    have hm : i % z.length < z.length := Nat.mod_lt _ hlen
    simp [hi, zerosV_at z n i hi, hm, List.getElem?_eq_getElem hm]
  · rw [List.getElem?_eq_none (by simp; omega), List.getElem?_eq_none (by simp [zerosV_length]; omega)]

theorem wrap_small {n : Int} (h0 : 0 ≤ n) (h1 : n ≤ 9223372036854775807) : IntKind.i64.wrap n = n := by rw [IntKind.wrap_i64]; omega

theorem inv_alloc {w : World} {o : Obj} (h : Inv Γ L w) : Inv Γ (some (w.heap.size, o) :: L) { w with heap := w.heap.push o } := h.alloc o

/-- A block that is no row of cells holds another object. -/
theorem Inv.setObj {w : World} (h : Inv Γ L w) {i b : Nat} {o o' : Obj} (hi : L[i]? = some (some (b, o))) :
    Inv Γ (L.set i (some (b, o'))) { w with heap := w.heap.setIfInBounds b o' } := by
  have hb := h.blk _ _ (List.mem_of_getElem? hi)
  have hlt := (Array.getElem?_eq_some_iff.1 hb).1
  refine h.set hi ?_ (fun k hk => ?_) ?_ rfl rfl rfl
  · simp [Array.getElem?_setIfInBounds, hlt]
  · rw [Array.getElem?_setIfInBounds_ne (Ne.symm hk)]
  · simp
theorem run_setMap {P : Program} {w : World} {r : Nat} {es : Array MapEntry} {ck : Nat} {o : Obj} (h : w.heap[r]? = some (.map es ck)) : (setObj r o).run P w = .ok () { w with heap := w.heap.setIfInBounds r o } := by
  simp [setObj, Sem.run, h]
theorem run_setIter {P : Program} {w : World} {r : Nat} {s : ByteArray} {p : Nat} {o : Obj} (h : w.heap[r]? = some (.stringIter s p)) : (setObj r o).run P w = .ok () { w with heap := w.heap.setIfInBounds r o } := by
  simp [setObj, Sem.run, h]
theorem findNow_some {kd : TypeDesc} {k : Value} : ∀ {es : List MapEntry} {i j : Nat} {v : Value}, Instr.findNow kd k es i = some (some (j, v)) → ∃ e, i ≤ j ∧ es[j - i]? = some e ∧ Instr.sameNow kd k e.key = some true
  | [], i, j, v, h => by cases h
  | e :: es, i, j, v, h => by
    unfold Instr.findNow at h
    split at h
    · rename_i hs
      cases h
      exact ⟨e, Nat.le_refl _, by simp, hs⟩
    · obtain ⟨e', h1, h2, h3⟩ := findNow_some h
      refine ⟨e', by omega, ?_, h3⟩
      rw [show j - i = (j - (i + 1)) + 1 by omega, List.getElem?_cons_succ]
      exact h2
    · cases h
theorem sameBits_of {kd : TypeDesc} (hs : (∃ kk, kd = .int kk) ∨ kd = .string) {a b : Value} (h : Instr.sameNow kd a b = some true) : Instr.sameBits 10000 b a = true := by
  rcases hs with ⟨kk, rfl⟩ | rfl
  · cases a <;> cases b <;> simp [Instr.sameNow] at h
    simp [Instr.sameBits, h.1, h.2]
  · cases a <;> cases b <;> simp [Instr.sameNow] at h
    rename_i a b
    have hab : a = b := by
      cases a; cases b
      have h' : ({ data := _ } : ByteArray).data = ({ data := _ } : ByteArray).data := eq_of_beq h
      exact congrArg _ h'
    subst hab
    exact h
theorem muVC_sound {t : TypeId} {m k v : Value} {K : Hp → Prop} (h : muVC Γ t m k v L K False) : ∀ w, Inv Γ L w → ∃ w' L', (Instr.mapUpdate t m k v).run Γ.P w = .ok () w' ∧ Inv Γ L' w' ∧ K L' := by
  unfold muVC at h
  split at h
  · rename_i r
    obtain ⟨kd, z, hm, i, es, ck, hL, fr, hf, hk⟩ := h
    obtain ⟨kt, e, hu, hkt, rfl, hs⟩ := mapT_some hm
    intro w hi
    have h1 := hi.blk _ _ (List.mem_of_getElem? hL)
    have hfk := run_findKey hkt hf w
    refine ⟨_, _, ?_, hi.setObj hL, hk⟩
    cases fr with
    | none => simp [Instr.mapUpdate, Sem.run_bind, run_underlying hu, run_checkKey hkt hs, run_getMap h1, hfk, run_setMap h1, mapPut]
    | some p =>
      obtain ⟨j, v0⟩ := p
      obtain ⟨e', _, h2, h3⟩ := findNow_some hf
      rw [Nat.sub_zero] at h2
      have hsb := sameBits_of hs h3
      simp [Instr.mapUpdate, Sem.run_bind, run_underlying hu, run_checkKey hkt hs, run_getMap h1, hfk, h2, Instr.keyThatStays, hsb, run_setMap h1, mapPut]
  · exact h.elim
theorem VC_sound {o : Oper} {K : Value → Hp → Prop} (h : VC Γ o T L K) : Yields Γ o T L K := by
  unfold VC at h
  split at h
  · rename_i t hop
    split at h
    · rename_i z hz
      refine .value fun w hi => ?_
      obtain ⟨v, hv, hc⟩ := zr_some hz w
      have hc' : v.cells = z.toArray := by rw [← hc]
      exact ⟨_, _, _, by simp [execOp, hop, Instr.alloc, hv, newVar, newRow, hc'], hi.alloc _, h _⟩
    · first | exact h | exact (h : False).elim
  · rename_i t x hop
    refine .value fun w hi => ?_
    exact ⟨_, _, _, by simp [execOp, hop, Instr.box, newVar, newRow], hi.alloc _, h _⟩
  · rename_i t a x hop
    unfold stVC at h
    split at h
    · rename_i ad ha
      refine .skip fun w hi => ?_
      obtain ⟨w', L', hr, hi', hk⟩ := storeVC_sound h w hi
      exact ⟨w', L', by simp [execOp, hop, ha, Instr.storeAt, Instr.sureAddr, hr], hi', hk⟩
    · first | exact h | exact (h : False).elim
  · rename_i t len parts hop
    split at h
    · rename_i e sz by_ hs
      obtain ⟨⟨ho, hn, hlim, hzl⟩, hk⟩ := h
      obtain ⟨hu, i, hi1, hi2, hi3⟩ := elS_some hs
      obtain ⟨z, hz, hzs⟩ := Option.map_eq_some_iff.1 hzl
      refine .value fun w hi => ?_
      obtain ⟨v, hv, hc⟩ := zr_some hz w
      have hc' : v.cells = z.toArray := by rw [← hc]
      have hf := inOrd_fill (parts.toList.map fun p => (p.1, ev T p.2)) 0 [] (zerosV z len) ho (by simp) (by rw [zerosV_length, hzs]; simp [hn])
      have hfill := fillL_sound _ _ _ hf
      rw [List.nil_append, List.nil_append] at hfill
      have hparts : (parts.map fun p => (p.1, ev T p.2)).toList = parts.toList.map fun p => (p.1, ev T p.2) := Array.toList_map
      refine ⟨_, _, _, ?_, hi.alloc _, hk _⟩
      have hlim' : ¬ (len * sz > 2 ^ 24) := by omega
      by_cases h0 : len * sz = 0
      · have hz0 : zerosV z len = [] := List.eq_nil_of_length_eq_zero (by rw [zerosV_length, hzs]; exact h0)
        rw [hz0] at hfill
        simp only [execOp, hop, Instr.buildSlice, Sem.run_bind, run_underlying hu, Result.andThen_ok, sizeOf_info hi1, hi2, if_neg hlim', Sem.run_pure, if_pos h0, hparts]
        have e0 : ((Array.range (len * sz)).map fun x => (#[] : Array Value)[x % (#[] : Array Value).size]!) = #[] := by rw [h0]; simp
        rw [e0, hfill]
        simp [newRow]
      · have hpos : 0 < sz := Nat.pos_of_ne_zero (fun e => h0 (by rw [e]; simp))
        have hze := zeros_eq z len (.inr (by rw [hzs]; exact hpos))
        rw [hzs] at hze
        simp only [execOp, hop, Instr.buildSlice, Sem.run_bind, run_underlying hu, Result.andThen_ok, sizeOf_info hi1, hi2, if_neg hlim', Sem.run_pure, if_neg h0, hparts, hv, hc', hze, hfill]
        simp [newRow]
    · first | exact h | exact (h : False).elim
  · rename_i t l c hop
    unfold mkVC at h
    split at h
    · rename_i k n k' m hl hc
      split at h
      · rename_i e sz by_ hs
        split at h
        · rename_i z hz
          obtain ⟨⟨h0, h1, h2, h3, hzs⟩, hk⟩ := h
          obtain ⟨hu, i, hi1, hi2, hi3⟩ := elS_some hs
          refine .value fun w hi => ?_
          obtain ⟨vz, hvz, hzc⟩ := Option.map_eq_some_iff.1 (show ((Γ.P.info? e).bind (·.zero)).map (fun v => v.cells.toList) = some z from hz)
          obtain ⟨i', hi', hz'⟩ := Option.bind_eq_some_iff.1 hvz
          rw [hi1] at hi'
          cases hi'
          have hmk := run_make (P := Γ.P) w t e i vz hu hi1 hz' k k' n m h0 h1 (by rw [hi3, Int.mul_comm]; exact h2) h3
          refine ⟨_, _, _, by simp only [execOp, hop, hl, hc, Sem.run_bind]; rw [hmk]; rfl, hi.alloc _, ?_⟩
          have hcells : madeCells vz.cells (m.toNat * i.size) = (zerosV z m.toNat).toArray := by
            have e1 : vz.cells = z.toArray := by rw [← hzc]
            have e2 := zeros_eq z m.toNat
            by_cases hz0 : 0 < z.length
            · rw [e1, hi2, ← hzs]
              exact e2 (.inr hz0)
            · have : z.length = 0 := by omega
              rw [e1, hi2, ← hzs]
              exact e2 (.inl (by rw [this]; simp))
          rw [hcells]
          exact hk _
        · first | exact h | exact (h : False).elim
      · first | exact h | exact (h : False).elim
    · first | exact h | exact (h : False).elim
  · rename_i t x hop
    unfold rgVC at h
    split at h
    · rename_i s hx
      obtain ⟨hu, hk⟩ := h
      refine .value fun w hi => ?_
      exact ⟨_, _, _, by simp [execOp, hop, hx, run_range_string w t s hu, World.iter], hi.alloc _, hk _⟩
    · exact (h : False).elim
  · rename_i x hop
    unfold nxVC at h
    split at h
    · rename_i b sp hx
      obtain ⟨i, s, pos, hL, hk⟩ := h
      refine .value fun w hi => ?_
      have h1 := hi.blk _ _ (List.mem_of_getElem? hL)
      by_cases hp : pos < s.size
      · rw [if_pos hp] at hk
        refine ⟨_, _, _, ?_, hi.setObj hL, hk⟩
        simp [execOp, hop, hx, Instr.next, Sem.run_bind, run_getIter h1, hp, run_setIter h1, goInt]
      · rw [if_neg hp] at hk
        refine ⟨_, _, _, ?_, hi, hk⟩
        simp [execOp, hop, hx, Instr.next, Sem.run_bind, run_getIter h1, hp]
    · exact (h : False).elim
  · rename_i t hop
    refine .value fun w hi => ?_
    exact ⟨_, _, _, by simp [execOp, hop, Instr.makeMap], hi.alloc _, h _⟩
  · rename_i t m k x hop
    refine .skip fun w hi => ?_
    obtain ⟨w', L', hr, hi', hk⟩ := muVC_sound h w hi
    exact ⟨w', L', by simp [execOp, hop, hr], hi', hk⟩
  · rename_i t m k x hop
    refine .skip fun w hi => ?_
    obtain ⟨w', L', hr, hi', hk⟩ := muVC_sound h w hi
    exact ⟨w', L', by simp [execOp, hop, hr], hi', hk⟩
  · rename_i s d x hop
    unfold cvVC at h
    split at h
    · rename_i str hx
      split at h
      · rename_i d0 e hs hd
        obtain ⟨he, hk⟩ := h
        refine .value fun w hi => ?_
        have hrun := Lib.run_convert_string_bytes (P := Γ.P) w s d e str hs hd he
        have hcap : str.size ≤ grownCap w str.size 0 e := by unfold grownCap Question.cut; exact Nat.le_add_right _ _
        refine ⟨_, _, _, by simp only [execOp, hop, hx, Sem.run_bind]; rw [hrun]; rfl, ?_, hk w.heap.size (grownCap w str.size 0 e) hcap⟩
        have hb : Below w.heap.size w (Lib.bytesWorld w e str) := ⟨rfl, rfl, rfl, by rw [Lib.bytesWorld_size]; omega, fun i hi => Lib.bytesWorld_at_old w e str i (by omega)⟩
        refine hi.add hb (Nat.le_refl _) ?_
        rw [Lib.bytesWorld_at_new]
        have e1 : Lib.bytesCells w e str = (bytesV str ++ List.replicate (grownCap w str.size 0 e - str.size) (Value.int .u8 0)).toArray := by
          apply Array.ext'
          simp [Lib.bytesCells, bytesV]
        have e2 : (Lib.bytesCells w e str).size = grownCap w str.size 0 e := by
          rw [e1]
          simp [bytesV]
          have : str.data.size = str.size := rfl
          omega
        rw [e2, e1]
      · rename_i d0 hs hd
        refine .value fun w hi => ⟨_, _, _, ?_, hi, h⟩
        simp [execOp, hop, hx, convert, run_underlying hs, run_underlying hd]
      · first | exact h | exact (h : False).elim
    · exact (VQ_sound h).yields
  · rename_i c hop
    split at h
    · rename_i s x ty tx hcal hargs hty
      have ha : c.args = #[s, x] := by apply Array.ext'; simpa using hargs
      have ht : c.argTypes = #[ty, tx] := by apply Array.ext'; simpa using hty
      refine .value fun w hi => ?_
      obtain ⟨v, w', L', hr, hi', hk⟩ := h w hi
      refine ⟨v, w', L', ?_, hi', hk⟩
      simp [execOp, hop, resolve, hcal, ha, ht, invoke, builtin, hr]
    · rename_i s x ty tx hcal hargs hty
      have ha : c.args = #[s, x] := by apply Array.ext'; simpa using hargs
      have ht : c.argTypes = #[ty, tx] := by apply Array.ext'; simpa using hty
      refine .value fun w hi => ?_
      obtain ⟨v, w', L', hr, hi', hk⟩ := h w hi
      refine ⟨v, w', L', ?_, hi', hk⟩
      simp [execOp, hop, resolve, hcal, ha, ht, invoke, builtin, hr]
    · rename_i f hcal
      unfold callVC at h
      split at h
      · rename_i k first cap hf
        obtain ⟨hc, hs⟩ := h
        intro w hi
        unfold callable at hc
        split at hc
        · rename_i fn hfn
          simp only [Bool.and_eq_true, Bool.not_eq_true', Option.isSome_iff_exists] at hc
          obtain ⟨⟨body, hb⟩, hn⟩ := hc
          have hrun : (execOp (ev T) o).run Γ.P w = .ok (.enter k (first ++ c.args.map (ev T) ++ cap)) w := by
            simp [execOp, hop, resolve, hcal, hf, Deferred.ofValue, invoke, callFunc, hfn, (by simpa using hn : ¬ fn.name = "runtime.NumGoroutine"), hb]
          rw [hrun]
          exact hs w hi
        · cases hc
      · first | exact h | exact (h : False).elim
    · exact (VQ_sound h).yields
  · exact (VQ_sound h).yields
end
end Go.SX
