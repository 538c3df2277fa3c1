/- A part of the proof of OpsLinesCardSaid. -/
import Derived.WalkKit
import Derived.Deep.QuietTactic
import Derived.KernelRfl
import Derived.StillTail
/-! The walk by lists: a heap as a list of blocks with what lies in them; a frame as a function. -/
set_option linter.unusedVariables false
set_option linter.unusedSimpArgs false
namespace Go.SX
open Go.RowKit

abbrev Env := Nat → Value
/-- A slot: a block and what lies in it, or nothing. -/
abbrev Slot := Option (Nat × Obj)
abbrev Hp := List Slot

structure Ctx where
  P : Program
  w0 : World
  own : List Nat

structure Inv (Γ : Ctx) (L : Hp) (w : World) : Prop where
  inj : ∀ (i j b : Nat) (o o' : Obj), L[i]? = some (some (b, o)) → L[j]? = some (some (b, o')) → i = j
  blk : ∀ (b : Nat) (o : Obj), some (b, o) ∈ L → w.heap[b]? = some o
  src : ∀ (b : Nat) (o : Obj), some (b, o) ∈ L → b ∈ Γ.own ∨ Γ.w0.heap.size ≤ b
  os : w.os = Γ.w0.os
  tape : w.tape = Γ.w0.tape
  output : w.output = Γ.w0.output
  size : Γ.w0.heap.size ≤ w.heap.size
  old : ∀ b, b < Γ.w0.heap.size → b ∉ Γ.own → w.heap[b]? = Γ.w0.heap[b]?

theorem Inv.lt {Γ : Ctx} {L : Hp} {w : World} (h : Inv Γ L w) {b : Nat} {o : Obj} (hm : some (b, o) ∈ L) : b < w.heap.size :=
  (Array.getElem?_eq_some_iff.1 (h.blk b o hm)).1

theorem Inv.drop {Γ : Ctx} {L : Hp} {w : World} {p : Slot} (h : Inv Γ (p :: L) w) : Inv Γ L w :=
  { h with
    inj := fun i j b o o' hi hj => by
      have := h.inj (i + 1) (j + 1) b o o' (by simpa using hi) (by simpa using hj)
      omega
    blk := fun b o hm => h.blk b o (List.mem_cons_of_mem _ hm)
    src := fun b o hm => h.src b o (List.mem_cons_of_mem _ hm) }
theorem Inv.tail {Γ : Ctx} {A L : Hp} {w : World} (h : Inv Γ (A ++ L) w) : Inv Γ L w := by
  induction A with
  | nil => exact h
  | cons p A ih => exact ih h.drop
/-- An empty slot more. -/
theorem Inv.none {Γ : Ctx} {L : Hp} {w : World} (h : Inv Γ L w) : Inv Γ (none :: L) w :=
  { h with
    inj := fun i j b o o' hi hj => by
      cases i with
      | zero => simp at hi
      | succ i =>
        cases j with
        | zero => simp at hj
        | succ j => rw [h.inj i j b o o' (by simpa using hi) (by simpa using hj)]
    blk := fun b o hm => h.blk b o (by simpa using hm)
    src := fun b o hm => h.src b o (by simpa using hm) }

theorem Inv.drewN {Γ : Ctx} {L : Hp} {w : World} (h : Inv Γ L w) (n : Nat) : Inv Γ L (w.drewN n) :=
  ⟨h.inj, h.blk, h.src, h.os, h.tape, h.output, h.size, h.old⟩
theorem Inv.drew {Γ : Ctx} {L : Hp} {w : World} (h : Inv Γ L w) : Inv Γ L w.drew :=
  ⟨h.inj, h.blk, h.src, h.os, h.tape, h.output, h.size, h.old⟩
theorem Inv.drewR {Γ : Ctx} {L : Hp} {w : World} (h : Inv Γ L w) : Inv Γ L { w with drawn := w.drawn + 1 } :=
  ⟨h.inj, h.blk, h.src, h.os, h.tape, h.output, h.size, h.old⟩

/-- Whatever world keeps the blocks of L (and the old ones) is one of the class. -/
theorem Inv.of_below {Γ : Ctx} {L : Hp} {w w' : World} (h : Inv Γ L w) (hb : Below w.heap.size w w') : Inv Γ L w' where
  inj := h.inj
  blk := fun b o hm => (hb.block b (h.lt hm)).trans (h.blk b o hm)
  src := h.src
  os := hb.os.trans h.os
  tape := hb.tape.trans h.tape
  output := hb.output.trans h.output
  size := Nat.le_trans h.size hb.size
  old := fun b hlt ho => (hb.block b (Nat.lt_of_lt_of_le hlt h.size)).trans (h.old b hlt ho)

/-- A new block of a world that has grown from w. -/
theorem Inv.add {Γ : Ctx} {L : Hp} {w w' : World} (h : Inv Γ L w) (hb : Below w.heap.size w w') {g : Nat} {o : Obj} (hg : w.heap.size ≤ g) (ho : w'.heap[g]? = some o) : Inv Γ (some (g, o) :: L) w' :=
  { h.of_below hb with
    inj := fun i j b o1 o2 hi hj => by
      have hne : ∀ k o3, L[k]? = some (some (g, o3)) → False := fun k o3 hk => by
        have := h.lt (List.mem_of_getElem? hk)
        omega
      cases i with
      | zero =>
        cases j with
        | zero => rfl
        | succ j =>
          simp at hi hj
          obtain ⟨rfl, rfl⟩ := hi
          exact (hne _ _ hj).elim
      | succ i =>
        cases j with
        | zero =>
          simp at hi hj
          obtain ⟨rfl, rfl⟩ := hj
          exact (hne _ _ hi).elim
        | succ j => rw [h.inj i j b o1 o2 (by simpa using hi) (by simpa using hj)]
    blk := by
      intro b o hm
      rcases List.mem_cons.1 hm with hm | hm
      · cases hm; exact ho
      · exact (h.of_below hb).blk _ _ hm
    src := by
      intro b o hm
      rcases List.mem_cons.1 hm with hm | hm
      · cases hm; exact .inr (Nat.le_trans h.size hg)
      · exact h.src _ _ hm }
theorem Inv.alloc {Γ : Ctx} {L : Hp} {w : World} (h : Inv Γ L w) (o : Obj) : Inv Γ (some (w.heap.size, o) :: L) (w.alloc o) :=
  h.add ((Below.refl _ w).alloc (Nat.le_refl _) o) (Nat.le_refl _) (by
    show (w.heap.push o)[w.heap.size]? = some o
    simp)

/-- A slot's block holds another object. -/
theorem Inv.set {Γ : Ctx} {L : Hp} {w w' : World} (h : Inv Γ L w) {i b : Nat} {o o' : Obj} (hi : L[i]? = some (some (b, o)))
    (hw : w'.heap[b]? = some o') (hoth : ∀ k, k ≠ b → w'.heap[k]? = w.heap[k]?) (hs : w'.heap.size = w.heap.size)
    (h1 : w'.os = w.os) (h2 : w'.tape = w.tape) (h3 : w'.output = w.output) : Inv Γ (L.set i (some (b, o'))) w' where
  inj := by
    have key : ∀ (k b1 : Nat) (o1 : Obj), (L.set i (some (b, o')))[k]? = some (some (b1, o1)) → ∃ o2 : Obj, L[k]? = some (some (b1, o2)) := by
      intro k b1 o1 hk
      rw [List.getElem?_set] at hk
      split at hk
      · rename_i hik
        subst hik
        split at hk
        · cases hk; exact ⟨_, hi⟩
        · cases hk
      · exact ⟨_, hk⟩
    intro j k b1 o1 o2 hj hk
    obtain ⟨o3, hj⟩ := key _ _ _ hj
    obtain ⟨o4, hk⟩ := key _ _ _ hk
    exact h.inj _ _ _ _ _ hj hk
  blk := by
    intro k o'' hm
    obtain ⟨j, hj⟩ := List.mem_iff_getElem?.1 hm
    rw [List.getElem?_set] at hj
    split at hj
    · rename_i hij
      subst hij
      split at hj
      · cases hj; exact hw
      · cases hj
    · rename_i hij
      have hkb : k ≠ b := by
        rintro rfl
        exact hij (h.inj _ _ _ _ _ hi hj)
      rw [hoth k hkb]
      exact h.blk _ _ (List.mem_of_getElem? hj)
  src := by
    intro k o'' hm
    obtain ⟨j, hj⟩ := List.mem_iff_getElem?.1 hm
    rw [List.getElem?_set] at hj
    split at hj
    · split at hj
      · cases hj; exact h.src _ _ (List.mem_of_getElem? hi)
      · cases hj
    · exact h.src _ _ (List.mem_of_getElem? hj)
  os := h1.trans h.os
  tape := h2.trans h.tape
  output := h3.trans h.output
  size := by rw [hs]; exact h.size
  old := by
    intro k hk ho
    have hne : k ≠ b := by
      rintro rfl
      rcases h.src _ _ (List.mem_of_getElem? hi) with h' | h'
      · exact ho h'
      · omega
    rw [hoth k hne]
    exact h.old k hk ho
/-- A slot is emptied, or holds what is new. -/
theorem Inv.put {Γ : Ctx} {L : Hp} {w : World} {s : Slot} (h : Inv Γ (s :: L) w) (i : Nat) : Inv Γ (L.set i s) w where
  inj := by
    intro j k b o1 o2 hj hk
    have key : ∀ (k b1 : Nat) (o1 : Obj), (L.set i s)[k]? = some (some (b1, o1)) → (k = i ∧ (s :: L)[0]? = some (some (b1, o1))) ∨ (k ≠ i ∧ (s :: L)[k + 1]? = some (some (b1, o1))) := by
      intro k b1 o1 hk
      rw [List.getElem?_set] at hk
      split at hk
      · rename_i hik
        split at hk
        · exact .inl ⟨hik.symm, by simpa using hk⟩
        · cases hk
      · rename_i hik
        exact .inr ⟨fun e => hik e.symm, by simpa using hk⟩
    rcases key _ _ _ hj with ⟨e1, h1⟩ | ⟨e1, h1⟩ <;> rcases key _ _ _ hk with ⟨e2, h2⟩ | ⟨e2, h2⟩
    · omega
    · have := h.inj _ _ _ _ _ h1 h2; omega
    · have := h.inj _ _ _ _ _ h1 h2; omega
    · have := h.inj _ _ _ _ _ h1 h2; omega
  blk := by
    intro b o hm
    rcases List.mem_or_eq_of_mem_set hm with hm | hm
    · exact h.blk _ _ (List.mem_cons_of_mem _ hm)
    · exact h.blk _ _ (by rw [← hm]; exact List.mem_cons_self)
  src := by
    intro b o hm
    rcases List.mem_or_eq_of_mem_set hm with hm | hm
    · exact h.src _ _ (List.mem_cons_of_mem _ hm)
    · exact h.src _ _ (by rw [← hm]; exact List.mem_cons_self)
  os := h.os
  tape := h.tape
  output := h.output
  size := h.size
  old := h.old

/-- What is known of a cell. -/
def Cell (Γ : Ctx) (L : Hp) (a : Addr) (v : Value) : Prop :=
  (a.spot = none ∧ ∃ cs t fr, some (a.block, Obj.cells cs t fr) ∈ L ∧ cs[a.off]? = some v) ∨ (a.block ∉ Γ.own ∧ Γ.w0.cell? a = some v)

theorem Cell.own {Γ : Ctx} {L : Hp} (i : Nat) {b off : Nat} {v : Value} {cs : Array Value} {t : TypeId} {fr : Nat × Nat} (h : L[i]? = some (some (b, Obj.cells cs t fr))) (hc : cs[off]? = some v) : Cell Γ L ⟨b, off, none⟩ v :=
  .inl ⟨rfl, cs, t, fr, List.mem_of_getElem? h, hc⟩
theorem Cell.old {Γ : Ctx} {L : Hp} {a : Addr} {v : Value} (ho : a.block ∉ Γ.own) (h : Γ.w0.cell? a = some v) : Cell Γ L a v := .inr ⟨ho, h⟩
theorem Cell.cons {Γ : Ctx} {L : Hp} {a : Addr} {v : Value} (p : Slot) (h : Cell Γ L a v) : Cell Γ (p :: L) a v := by
  rcases h with ⟨hs, cs, t, fr, hm, hc⟩ | h
  · exact .inl ⟨hs, cs, t, fr, List.mem_cons_of_mem _ hm, hc⟩
  · exact .inr h
theorem Cell.app {Γ : Ctx} {L : Hp} {a : Addr} {v : Value} (A : Hp) (h : Cell Γ L a v) : Cell Γ (A ++ L) a v := by
  rcases h with ⟨hs, cs, t, fr, hm, hc⟩ | h
  · exact .inl ⟨hs, cs, t, fr, List.mem_append_right _ hm, hc⟩
  · exact .inr h
theorem Cell.real {Γ : Ctx} {L : Hp} {w : World} {a : Addr} {v : Value} (h : Cell Γ L a v) (hI : Inv Γ L w) : w.cell? a = some v := by
  rcases h with ⟨hs, cs, t, fr, hm, hc⟩ | ⟨ho, h⟩
  · simp [World.cell?, hI.blk _ _ hm, hs, hc]
  · have hlt := World.block_lt_of_cell? _ _ h
    rw [World.cell?_of_block (hI.old a.block hlt ho)]
    exact h

/-! ### frames -/
def upd (T : Env) (d : Nat) (v : Value) : Env := fun i => if i = d then v else T i
theorem upd_same (T : Env) (d : Nat) (v : Value) : upd T d v d = v := if_pos rfl
theorem upd_ne (T : Env) {d i : Nat} (v : Value) (h : i ≠ d) : upd T d v i = T i := if_neg h
theorem upd_app (T : Env) (d : Nat) (v : Value) (i : Nat) : upd T d v i = if i = d then v else T i := rfl

def Fits (n : Nat) (T : Env) (a : Act) : Prop := a.tmps.size = n ∧ a.defers = [] ∧ ∀ i, a.tmps.getD i undef = T i

theorem Fits.put {n : Nat} {T : Env} {a : Act} (h : Fits n T a) {d : Nat} (hd : d < n) (v : Value) : Fits n (upd T d v) (a.put (some d) v) := by
  refine ⟨by simp [Act.put, h.1], h.2.1, fun i => ?_⟩
  have := h.2.2 i
  have h1 := h.1
  simp only [Act.put, upd]
  by_cases hi : i = d
  · subst hi
    simp [Array.getD_eq_getD_getElem?, Array.getElem?_setIfInBounds, h1, hd]
  · rw [if_neg hi, ← this]
    simp only [Array.getD_eq_getD_getElem?]
    rw [Array.getElem?_setIfInBounds_ne (by omega)]
theorem Fits.put_none {n : Nat} {T : Env} {a : Act} (h : Fits n T a) (v : Value) : Fits n T (a.put none v) := h

def ev (T : Env) : Operand → Value
  | .tmp t => T t
  | .const v => v
  | .global g => .pointer (some ⟨g, 0, none⟩)
  | .func f => .func (.func f) #[] #[]
theorem Fits.eval {n : Nat} {T : Env} {a : Act} (h : Fits n T a) : a.eval = ev T := by
  funext x
  cases x with
  | tmp t => exact h.2.2 t
  | _ => rfl

/-! ### code -/
def lift (Γ : Ctx) (n : Nat) (Q : Exit → Env → Hp → Prop) : Exit → Act → World → Prop := fun e a w => ∃ T L, Fits n T a ∧ Inv Γ L w ∧ Q e T L
def SX (Γ : Ctx) (n : Nat) (c : Code) (Q : Exit → Env → Hp → Prop) (T : Env) (L : Hp) : Prop :=
  ∀ a w, Fits n T a → Inv Γ L w → c.wp Γ.P (lift Γ n Q) a w

def andThen (K : Env → Hp → Prop) (Q : Exit → Env → Hp → Prop) : Exit → Env → Hp → Prop
  | .normal, T, L => K T L
  | e, T, L => Q e T L
def inBlk (id : Nat) (Q : Exit → Env → Hp → Prop) : Exit → Env → Hp → Prop
  | .exit id', T, L => if id' = id then Q .normal T L else Q (.exit id') T L
  | e, T, L => Q e T L

section
variable {Γ : Ctx} {n : Nat} {Q : Exit → Env → Hp → Prop} {T : Env} {L : Hp}
theorem SX.mono {c : Code} {Q' : Exit → Env → Hp → Prop} (h : SX Γ n c Q T L) (hq : ∀ e T L, Q e T L → Q' e T L) : SX Γ n c Q' T L :=
  fun a w hf hi => Code.wp_mono (fun _ _ _ ⟨T', L', h1, h2, h3⟩ => ⟨T', L', h1, h2, hq _ _ _ h3⟩) (h a w hf hi)
theorem SX.skip (h : Q .normal T L) : SX Γ n .skip Q T L := fun a w hf hi => wp_skip ⟨T, L, hf, hi, h⟩
theorem SX.label {l : Nat} (h : Q .normal T L) : SX Γ n (.label l) Q T L := fun a w hf hi => wp_label ⟨T, L, hf, hi, h⟩
theorem SX.exit {id : Nat} (h : Q (.exit id) T L) : SX Γ n (.exit id) Q T L := fun a w hf hi => wp_exit ⟨T, L, hf, hi, h⟩
theorem SX.ret (h : Q .ret T L) : SX Γ n .ret Q T L := fun a w hf hi => wp_ret ⟨T, L, hf, hi, h⟩
theorem SX.seq {x y : Code} (h : SX Γ n x (andThen (SX Γ n y Q) Q) T L) : SX Γ n (.seq x y) Q T L := fun a w hf hi => by
  refine wp_seq (Code.wp_mono ?_ (h a w hf hi))
  rintro e a' w' ⟨T', L', h1, h2, h3⟩
  cases e <;> first | exact h3 a' w' h1 h2 | exact ⟨T', L', h1, h2, h3⟩
/-- What follows, behind a name. -/
theorem SX.seq_k {x y : Code} (h : ∀ K : Env → Hp → Prop, (∀ T L, SX Γ n y Q T L → K T L) → SX Γ n x (andThen K Q) T L) : SX Γ n (.seq x y) Q T L := SX.seq (h _ fun _ _ h => h)
/-- What is known where x ends. -/
theorem SX.cut {x y : Code} (I : Env → Hp → Prop) (h : SX Γ n x (andThen I Q) T L) (k : ∀ T L, I T L → SX Γ n y Q T L) : SX Γ n (.seq x y) Q T L :=
  SX.seq (h.mono fun e T L h => by cases e <;> first | exact k T L h | exact h)
theorem SX.block {id : Nat} {c : Code} (h : SX Γ n c (inBlk id Q) T L) : SX Γ n (.block id c) Q T L := fun a w hf hi => by
  refine wp_block (Code.wp_mono ?_ (h a w hf hi))
  rintro e a' w' ⟨T', L', h1, h2, h3⟩
  cases e with
  | exit id' =>
    simp only [inBlk] at h3
    simp only [Exit.inBlock]
    split at h3
    · rename_i he; rw [if_pos he]; exact ⟨T', L', h1, h2, h3⟩
    · rename_i he; rw [if_neg he]; exact ⟨T', L', h1, h2, h3⟩
  | _ => exact ⟨T', L', h1, h2, h3⟩
theorem SX.cond {o : Operand} {x y : Code} {b : Bool} (hb : ev T o = .bool b) (ht : b = true → SX Γ n x Q T L) (hf : b = false → SX Γ n y Q T L) : SX Γ n (.cond o x y) Q T L := fun a w hft hi =>
  wp_cond_split (t := b) (by rw [hft.eval]; exact hb) (fun h => ht h a w hft hi) (fun h => hf h a w hft hi)
theorem SX.loop {c : Code} (I : Env → Hp → Prop) (μ : Env → Hp → Nat) (h₀ : I T L)
    (round : ∀ T L, I T L → SX Γ n c (andThen (fun T' L' => I T' L' ∧ μ T' L' < μ T L) Q) T L) : SX Γ n (.loop c) Q T L := fun a w hf hi => by
  -- the measure of a state: the least of its readings
  have key : ∀ m T L, μ T L = m → I T L → ∀ a w, Fits n T a → Inv Γ L w → ∀ b k cs,
      ∃ e a' w', lift Γ n Q e a' w' ∧ Arrives Γ.P (lone (b.at a (.code c :: .inLoop c :: k)) cs w) b k cs e a' w' := by
    intro m
    induction m using Nat.strongRecOn with
    | _ m ih =>
      intro T L hm hI a w hf hi b k cs
      obtain ⟨e, a₁, w₁, ⟨T₁, L₁, hf₁, hi₁, hq⟩, harr⟩ := round T L hI a w hf hi b (.inLoop c :: k) cs
      cases e with
      | normal =>
        obtain ⟨hI₁, hlt⟩ := hq
        obtain ⟨e₂, a₂, w₂, hq₂, harr₂⟩ := ih (μ T₁ L₁) (hm ▸ hlt) T₁ L₁ rfl hI₁ a₁ w₁ hf₁ hi₁ b k cs
        exact ⟨e₂, a₂, w₂, hq₂, .of_steps (Steps.trans harr (.one step_inLoop)) harr₂⟩
      | _ => exact ⟨_, a₁, w₁, ⟨T₁, L₁, hf₁, hi₁, hq⟩, .pass (x := .inLoop c) rfl (fun _ _ => .inl (by simp)) harr⟩
  intro b k cs
  obtain ⟨e, a', w', hq, harr⟩ := key _ T L rfl h₀ a w hf hi b k cs
  exact ⟨e, a', w', hq, .of_steps (.one step_loop) harr⟩
end

/-! ### calls -/
def SCall (Γ : Ctx) (f : FuncId) (args : Array Value) (L : Hp) (R : Value → Hp → Prop) : Prop :=
  ∀ w, Inv Γ L w → Calls Γ.P f args w fun e w' => ∃ v L', e = .returned v ∧ Inv Γ L' w' ∧ R v L'
theorem SCall.mono {Γ : Ctx} {f : FuncId} {args : Array Value} {L : Hp} {R R' : Value → Hp → Prop} (h : SCall Γ f args L R) (hr : ∀ v L, R v L → R' v L) : SCall Γ f args L R' :=
  fun w hi => (h w hi).mono fun _ _ ⟨v, L', h1, h2, h3⟩ => ⟨v, L', h1, h2, hr _ _ h3⟩
/-- Less is known: what is L's is let go. -/
def Less (L L' : Hp) : Prop := ∀ (Γ : Ctx) (w : World), Inv Γ L w → Inv Γ L' w
theorem Less.refl (L : Hp) : Less L L := fun _ _ h => h
theorem Less.trans {L L' L'' : Hp} (h : Less L L') (k : Less L' L'') : Less L L'' := fun _ _ hi => k _ _ (h _ _ hi)
theorem Less.drop (p : Slot) (L : Hp) : Less (p :: L) L := fun _ _ h => h.drop
theorem Less.drops {p : Slot} {L L' : Hp} (h : Less L L') : Less (p :: L) L' := (Less.drop p L).trans h
theorem Less.tail (A L : Hp) : Less (A ++ L) L := fun _ _ h => h.tail

/-- The frame at a function's begin. -/
def env0 : List Value → Env
  | [] => fun _ => undef
  | v :: vs => fun i => match i with | 0 => v | i + 1 => env0 vs i
theorem env0_getD (l : List Value) (i : Nat) : env0 l i = l.getD i undef := by
  induction l generalizing i with
  | nil => simp [env0]
  | cons v l ih => cases i <;> simp [env0, ih]

/-- Behind the body: the result in its temporaries. -/
def retQ (res : Env → Hp → Value → Prop) (R : Value → Hp → Prop) : Exit → Env → Hp → Prop
  | .normal, T, L | .ret, T, L => ∃ v L', Less L L' ∧ res T L v ∧ R v L'
  | _, _, _ => False

theorem SCall.enter {Γ : Ctx} {f : FuncId} {fn : Func} {c : Code} {n : Nat} {args : List Value} {L : Hp} {R : Value → Hp → Prop} (res : Env → Hp → Value → Prop)
    (hf : Γ.P.funcs[f]? = some fn) (hb : fn.body = some c) (hn : fn.ntmps = n) (hle : args.length ≤ n)
    (hres : ∀ T L v a w, res T L v → Fits n T a → Inv Γ L w → (results fn a.tmps).run Γ.P w = .ok v w)
    (h : SX Γ n c (retQ res R) (env0 args) L) : SCall Γ f args.toArray L R := fun w hi => by
  refine calls_of_wp hf hb (Code.wp_mono ?_ (h _ w ⟨?_, rfl, fun i => ?_⟩ hi))
  · rintro e a' w' ⟨T', L', h1, h2, h3⟩
    cases e with
    | normal => obtain ⟨v, L'', hs, hv, hr⟩ := h3; exact ⟨h1.2.1, v, hres _ _ _ _ _ hv h1 h2, v, L'', rfl, hs _ _ h2, hr⟩
    | ret => obtain ⟨v, L'', hs, hv, hr⟩ := h3; exact ⟨h1.2.1, v, hres _ _ _ _ _ hv h1 h2, v, L'', rfl, hs _ _ h2, hr⟩
    | exit => exact h3.elim
    | goto => exact h3.elim
    | panic => exact h3.elim
    | outgrown => exact h3.elim
  · simp [hn]; omega
  · rw [env0_getD]
    simp only [Array.getD_eq_getD_getElem?, List.getD_eq_getElem?_getD]
    rw [Array.getElem?_append]
    split
    · simp
    · rename_i hge
      simp at hge
      rw [List.getElem?_eq_none hge]
      simp only [Array.getElem?_replicate]
      split <;> rfl

/-- One result, two, three, four, none, in temporaries. -/
def res0 : Env → Hp → Value → Prop := fun _ _ v => v = .tuple #[]
def res1 (t : Nat) : Env → Hp → Value → Prop := fun T _ v => v = T t
def res2 (t u : Nat) : Env → Hp → Value → Prop := fun T _ v => v = .tuple #[T t, T u]
def res3 (t u x : Nat) : Env → Hp → Value → Prop := fun T _ v => v = .tuple #[T t, T u, T x]

theorem res0_ok {Γ : Ctx} {fn : Func} {n : Nat} (h : fn.results = #[]) : ∀ T L v a w, res0 T L v → Fits n T a → Inv Γ L w → (results fn a.tmps).run Γ.P w = .ok v w := by
  rintro T L v a w rfl hf hi
  exact results_none h _ _ _
theorem res1_ok {Γ : Ctx} {fn : Func} {n t : Nat} (h : fn.results = #[.tmp t]) : ∀ T L v a w, res1 t T L v → Fits n T a → Inv Γ L w → (results fn a.tmps).run Γ.P w = .ok v w := by
  rintro T L v a w rfl hf hi
  rw [← hf.2.2 t]
  exact results_tmp h _ _ _
theorem res2_ok {Γ : Ctx} {fn : Func} {n t u : Nat} (h : fn.results = #[.tmp t, .tmp u]) : ∀ T L v a w, res2 t u T L v → Fits n T a → Inv Γ L w → (results fn a.tmps).run Γ.P w = .ok v w := by
  rintro T L v a w rfl hf hi
  rw [← hf.2.2 t, ← hf.2.2 u]
  exact results_tmp2 h _ _ _
theorem res3_ok {Γ : Ctx} {fn : Func} {n t u x : Nat} (h : fn.results = #[.tmp t, .tmp u, .tmp x]) : ∀ T L v a w, res3 t u x T L v → Fits n T a → Inv Γ L w → (results fn a.tmps).run Γ.P w = .ok v w := by
  rintro T L v a w rfl hf hi
  rw [← hf.2.2 t, ← hf.2.2 u, ← hf.2.2 x]
  simp [results, h]
end Go.SX
