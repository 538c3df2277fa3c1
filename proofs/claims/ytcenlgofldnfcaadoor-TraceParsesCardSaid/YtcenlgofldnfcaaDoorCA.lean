/- A part of a proof: contracts and plain facts that it stands on. -/
import Derived.WalkKit
import Derived.Deep.QuietTactic
import Derived.KernelRfl
import Derived.StillTail
import Derived.DeepKeys
import Derived.Laws.StructEq
import Derived.LaidEqlPtr
import Derived.Lib.ConvBytes
import Derived.Laws.RangeAny
import Derived.Test.YtcenlgofldnfcaaDoorProg
import Derived.RangeFuncNested
import Derived.RangeFuncBound
import Derived.RangeFuncLeaves
import Derived.Deep.AppendSrc
import Derived.Deep.Upon
import Derived.ProofKit
import Derived.SizedLaws
import Derived.ChangeBears2
import Derived.OpenShut
import Derived.Below
import Derived.ChangeSame
import Derived.Carry
import Derived.ChangeCalls
import Derived.LaidMore
import Derived.Stop.Joined
/-! The walk by lists: a heap as a list of blocks with what lies in them; a frame as a function. -/
set_option linter.unusedVariables false
set_option linter.unusedSimpArgs false
namespace Go.SX
open Go.RowKit

abbrev Env := Nat → Value
/-- A slot: a block and what lies in it, or nothing. -/
abbrev Slot := Option (Nat × Obj)
abbrev Hp := List Slot

structure Ctx where
  P : Program
  w0 : World
  own : List Nat

structure Inv (Γ : Ctx) (L : Hp) (w : World) : Prop where
  inj : ∀ (i j b : Nat) (o o' : Obj), L[i]? = some (some (b, o)) → L[j]? = some (some (b, o')) → i = j
  blk : ∀ (b : Nat) (o : Obj), some (b, o) ∈ L → w.heap[b]? = some o
  src : ∀ (b : Nat) (o : Obj), some (b, o) ∈ L → b ∈ Γ.own ∨ Γ.w0.heap.size ≤ b
  os : w.os = Γ.w0.os
  tape : w.tape = Γ.w0.tape
  output : w.output = Γ.w0.output
  size : Γ.w0.heap.size ≤ w.heap.size
  old : ∀ b, b < Γ.w0.heap.size → b ∉ Γ.own → w.heap[b]? = Γ.w0.heap[b]?

theorem Inv.lt {Γ : Ctx} {L : Hp} {w : World} (h : Inv Γ L w) {b : Nat} {o : Obj} (hm : some (b, o) ∈ L) : b < w.heap.size :=
  (Array.getElem?_eq_some_iff.1 (h.blk b o hm)).1

theorem Inv.drop {Γ : Ctx} {L : Hp} {w : World} {p : Slot} (h : Inv Γ (p :: L) w) : Inv Γ L w :=
  { h with
    inj := fun i j b o o' hi hj => by
      have := h.inj (i + 1) (j + 1) b o o' (by simpa using hi) (by simpa using hj)
      omega
    blk := fun b o hm => h.blk b o (List.mem_cons_of_mem _ hm)
    src := fun b o hm => h.src b o (List.mem_cons_of_mem _ hm) }
theorem Inv.tail {Γ : Ctx} {A L : Hp} {w : World} (h : Inv Γ (A ++ L) w) : Inv Γ L w := by
  induction A with
  | nil => exact h
  | cons p A ih => exact ih h.drop
/-- An empty slot more. -/
theorem Inv.none {Γ : Ctx} {L : Hp} {w : World} (h : Inv Γ L w) : Inv Γ (none :: L) w :=
  { h with
    inj := fun i j b o o' hi hj => by
      cases i with
      | zero => simp at hi
      | succ i =>
        cases j with
        | zero => simp at hj
        | succ j => rw [h.inj i j b o o' (by simpa using hi) (by simpa using hj)]
    blk := fun b o hm => h.blk b o (by simpa using hm)
    src := fun b o hm => h.src b o (by simpa using hm) }

theorem Inv.drewN {Γ : Ctx} {L : Hp} {w : World} (h : Inv Γ L w) (n : Nat) : Inv Γ L (w.drewN n) :=
  ⟨h.inj, h.blk, h.src, h.os, h.tape, h.output, h.size, h.old⟩
theorem Inv.drew {Γ : Ctx} {L : Hp} {w : World} (h : Inv Γ L w) : Inv Γ L w.drew :=
  ⟨h.inj, h.blk, h.src, h.os, h.tape, h.output, h.size, h.old⟩
theorem Inv.drewR {Γ : Ctx} {L : Hp} {w : World} (h : Inv Γ L w) : Inv Γ L { w with drawn := w.drawn + 1 } :=
  ⟨h.inj, h.blk, h.src, h.os, h.tape, h.output, h.size, h.old⟩

/-- Whatever world keeps the blocks of L (and the old ones) is one of the class. -/
theorem Inv.of_below {Γ : Ctx} {L : Hp} {w w' : World} (h : Inv Γ L w) (hb : Below w.heap.size w w') : Inv Γ L w' where
  inj := h.inj
  blk := fun b o hm => (hb.block b (h.lt hm)).trans (h.blk b o hm)
  src := h.src
  os := hb.os.trans h.os
  tape := hb.tape.trans h.tape
  output := hb.output.trans h.output
  size := Nat.le_trans h.size hb.size
  old := fun b hlt ho => (hb.block b (Nat.lt_of_lt_of_le hlt h.size)).trans (h.old b hlt ho)

/-- A new block of a world that has grown from w. -/
theorem Inv.add {Γ : Ctx} {L : Hp} {w w' : World} (h : Inv Γ L w) (hb : Below w.heap.size w w') {g : Nat} {o : Obj} (hg : w.heap.size ≤ g) (ho : w'.heap[g]? = some o) : Inv Γ (some (g, o) :: L) w' :=
  { h.of_below hb with
    inj := fun i j b o1 o2 hi hj => by
      have hne : ∀ k o3, L[k]? = some (some (g, o3)) → False := fun k o3 hk => by
        have := h.lt (List.mem_of_getElem? hk)
        omega
      cases i with
      | zero =>
        cases j with
        | zero => rfl
        | succ j =>
          simp at hi hj
          obtain ⟨rfl, rfl⟩ := hi
          exact (hne _ _ hj).elim
      | succ i =>
        cases j with
        | zero =>
          simp at hi hj
          obtain ⟨rfl, rfl⟩ := hj
          exact (hne _ _ hi).elim
        | succ j => rw [h.inj i j b o1 o2 (by simpa using hi) (by simpa using hj)]
    blk := by
      intro b o hm
      rcases List.mem_cons.1 hm with hm | hm
      · cases hm; exact ho
      · exact (h.of_below hb).blk _ _ hm
    src := by
      intro b o hm
      rcases List.mem_cons.1 hm with hm | hm
      · cases hm; exact .inr (Nat.le_trans h.size hg)
      · exact h.src _ _ hm }
theorem Inv.alloc {Γ : Ctx} {L : Hp} {w : World} (h : Inv Γ L w) (o : Obj) : Inv Γ (some (w.heap.size, o) :: L) (w.alloc o) :=
  h.add ((Below.refl _ w).alloc (Nat.le_refl _) o) (Nat.le_refl _) (by
    show (w.heap.push o)[w.heap.size]? = some o
    simp)

/-- A slot's block holds another object. -/
theorem Inv.set {Γ : Ctx} {L : Hp} {w w' : World} (h : Inv Γ L w) {i b : Nat} {o o' : Obj} (hi : L[i]? = some (some (b, o)))
    (hw : w'.heap[b]? = some o') (hoth : ∀ k, k ≠ b → w'.heap[k]? = w.heap[k]?) (hs : w'.heap.size = w.heap.size)
    (h1 : w'.os = w.os) (h2 : w'.tape = w.tape) (h3 : w'.output = w.output) : Inv Γ (L.set i (some (b, o'))) w' where
  inj := by
    have key : ∀ (k b1 : Nat) (o1 : Obj), (L.set i (some (b, o')))[k]? = some (some (b1, o1)) → ∃ o2 : Obj, L[k]? = some (some (b1, o2)) := by
      intro k b1 o1 hk
      rw [List.getElem?_set] at hk
      split at hk
      · rename_i hik
        subst hik
        split at hk
        · cases hk; exact ⟨_, hi⟩
        · cases hk
      · exact ⟨_, hk⟩
    intro j k b1 o1 o2 hj hk
    obtain ⟨o3, hj⟩ := key _ _ _ hj
    obtain ⟨o4, hk⟩ := key _ _ _ hk
    exact h.inj _ _ _ _ _ hj hk
  blk := by
    intro k o'' hm
    obtain ⟨j, hj⟩ := List.mem_iff_getElem?.1 hm
    rw [List.getElem?_set] at hj
    split at hj
    · rename_i hij
      subst hij
      split at hj
      · cases hj; exact hw
      · cases hj
    · rename_i hij
      have hkb : k ≠ b := by
        rintro rfl
        exact hij (h.inj _ _ _ _ _ hi hj)
      rw [hoth k hkb]
      exact h.blk _ _ (List.mem_of_getElem? hj)
  src := by
    intro k o'' hm
    obtain ⟨j, hj⟩ := List.mem_iff_getElem?.1 hm
    rw [List.getElem?_set] at hj
    split at hj
    · split at hj
      · cases hj; exact h.src _ _ (List.mem_of_getElem? hi)
      · cases hj
    · exact h.src _ _ (List.mem_of_getElem? hj)
  os := h1.trans h.os
  tape := h2.trans h.tape
  output := h3.trans h.output
  size := by rw [hs]; exact h.size
  old := by
    intro k hk ho
    have hne : k ≠ b := by
      rintro rfl
      rcases h.src _ _ (List.mem_of_getElem? hi) with h' | h'
      · exact ho h'
      · omega
    rw [hoth k hne]
    exact h.old k hk ho
/-- A slot is emptied, or holds what is new. -/
theorem Inv.put {Γ : Ctx} {L : Hp} {w : World} {s : Slot} (h : Inv Γ (s :: L) w) (i : Nat) : Inv Γ (L.set i s) w where
  inj := by
    intro j k b o1 o2 hj hk
    have key : ∀ (k b1 : Nat) (o1 : Obj), (L.set i s)[k]? = some (some (b1, o1)) → (k = i ∧ (s :: L)[0]? = some (some (b1, o1))) ∨ (k ≠ i ∧ (s :: L)[k + 1]? = some (some (b1, o1))) := by
      intro k b1 o1 hk
      rw [List.getElem?_set] at hk
      split at hk
      · rename_i hik
        split at hk
        · exact .inl ⟨hik.symm, by simpa using hk⟩
        · cases hk
      · rename_i hik
        exact .inr ⟨fun e => hik e.symm, by simpa using hk⟩
    rcases key _ _ _ hj with ⟨e1, h1⟩ | ⟨e1, h1⟩ <;> rcases key _ _ _ hk with ⟨e2, h2⟩ | ⟨e2, h2⟩
    · omega
    · have := h.inj _ _ _ _ _ h1 h2; omega
    · have := h.inj _ _ _ _ _ h1 h2; omega
    · have := h.inj _ _ _ _ _ h1 h2; omega
  blk := by
    intro b o hm
    rcases List.mem_or_eq_of_mem_set hm with hm | hm
    · exact h.blk _ _ (List.mem_cons_of_mem _ hm)
    · exact h.blk _ _ (by rw [← hm]; exact List.mem_cons_self)
  src := by
    intro b o hm
    rcases List.mem_or_eq_of_mem_set hm with hm | hm
    · exact h.src _ _ (List.mem_cons_of_mem _ hm)
    · exact h.src _ _ (by rw [← hm]; exact List.mem_cons_self)
  os := h.os
  tape := h.tape
  output := h.output
  size := h.size
  old := h.old

/-- What is known of a cell. -/
def Cell (Γ : Ctx) (L : Hp) (a : Addr) (v : Value) : Prop :=
  (a.spot = none ∧ ∃ cs t fr, some (a.block, Obj.cells cs t fr) ∈ L ∧ cs[a.off]? = some v) ∨ (a.block ∉ Γ.own ∧ Γ.w0.cell? a = some v)

theorem Cell.own {Γ : Ctx} {L : Hp} (i : Nat) {b off : Nat} {v : Value} {cs : Array Value} {t : TypeId} {fr : Nat × Nat} (h : L[i]? = some (some (b, Obj.cells cs t fr))) (hc : cs[off]? = some v) : Cell Γ L ⟨b, off, none⟩ v :=
  .inl ⟨rfl, cs, t, fr, List.mem_of_getElem? h, hc⟩
theorem Cell.old {Γ : Ctx} {L : Hp} {a : Addr} {v : Value} (ho : a.block ∉ Γ.own) (h : Γ.w0.cell? a = some v) : Cell Γ L a v := .inr ⟨ho, h⟩
theorem Cell.cons {Γ : Ctx} {L : Hp} {a : Addr} {v : Value} (p : Slot) (h : Cell Γ L a v) : Cell Γ (p :: L) a v := by
  rcases h with ⟨hs, cs, t, fr, hm, hc⟩ | h
  · exact .inl ⟨hs, cs, t, fr, List.mem_cons_of_mem _ hm, hc⟩
  · exact .inr h
theorem Cell.real {Γ : Ctx} {L : Hp} {w : World} {a : Addr} {v : Value} (h : Cell Γ L a v) (hI : Inv Γ L w) : w.cell? a = some v := by
  rcases h with ⟨hs, cs, t, fr, hm, hc⟩ | ⟨ho, h⟩
  · simp [World.cell?, hI.blk _ _ hm, hs, hc]
  · have hlt := World.block_lt_of_cell? _ _ h
    rw [World.cell?_of_block (hI.old a.block hlt ho)]
    exact h

/-! ### frames -/
def upd (T : Env) (d : Nat) (v : Value) : Env := fun i => if i = d then v else T i
theorem upd_same (T : Env) (d : Nat) (v : Value) : upd T d v d = v := if_pos rfl
theorem upd_app (T : Env) (d : Nat) (v : Value) (i : Nat) : upd T d v i = if i = d then v else T i := rfl

/-- The frame's own deferred calls (ds) stay as they are. -/
def Fits (ds : List Deferred) (n : Nat) (T : Env) (a : Act) : Prop := a.tmps.size = n ∧ a.defers = ds ∧ ∀ i, a.tmps.getD i undef = T i

theorem Fits.put {ds : List Deferred} {n : Nat} {T : Env} {a : Act} (h : Fits ds n T a) {d : Nat} (hd : d < n) (v : Value) : Fits ds n (upd T d v) (a.put (some d) v) := by
  refine ⟨by simp [Act.put, h.1], h.2.1, fun i => ?_⟩
  have := h.2.2 i
  have h1 := h.1
  simp only [Act.put, upd]
  by_cases hi : i = d
  · subst hi
    simp [Array.getD_eq_getD_getElem?, Array.getElem?_setIfInBounds, h1, hd]
  · rw [if_neg hi, ← this]
    simp only [Array.getD_eq_getD_getElem?]
    rw [Array.getElem?_setIfInBounds_ne (by omega)]
theorem Fits.put_none {ds : List Deferred} {n : Nat} {T : Env} {a : Act} (h : Fits ds n T a) (v : Value) : Fits ds n T (a.put none v) := h

def ev (T : Env) : Operand → Value
  | .tmp t => T t
  | .const v => v
  | .global g => .pointer (some ⟨g, 0, none⟩)
  | .func f => .func (.func f) #[] #[]
theorem Fits.eval {ds : List Deferred} {n : Nat} {T : Env} {a : Act} (h : Fits ds n T a) : a.eval = ev T := by
  funext x
  cases x with
  | tmp t => exact h.2.2 t
  | _ => rfl

/-! ### code -/
def lift (Γ : Ctx) (ds : List Deferred) (n : Nat) (Q : Exit → Env → Hp → Prop) : Exit → Act → World → Prop := fun e a w => ∃ T L, Fits ds n T a ∧ Inv Γ L w ∧ Q e T L
def SX (Γ : Ctx) (n : Nat) (c : Code) (Q : Exit → Env → Hp → Prop) (T : Env) (L : Hp) : Prop :=
  ∀ ds a w, Fits ds n T a → Inv Γ L w → c.wp Γ.P (lift Γ ds n Q) a w

def andThen (K : Env → Hp → Prop) (Q : Exit → Env → Hp → Prop) : Exit → Env → Hp → Prop
  | .normal, T, L => K T L
  | e, T, L => Q e T L
def inBlk (id : Nat) (Q : Exit → Env → Hp → Prop) : Exit → Env → Hp → Prop
  | .exit id', T, L => if id' = id then Q .normal T L else Q (.exit id') T L
  | e, T, L => Q e T L

section
variable {Γ : Ctx} {n : Nat} {Q : Exit → Env → Hp → Prop} {T : Env} {L : Hp}
theorem SX.mono {c : Code} {Q' : Exit → Env → Hp → Prop} (h : SX Γ n c Q T L) (hq : ∀ e T L, Q e T L → Q' e T L) : SX Γ n c Q' T L :=
  fun ds a w hf hi => Code.wp_mono (fun _ _ _ ⟨T', L', h1, h2, h3⟩ => ⟨T', L', h1, h2, hq _ _ _ h3⟩) (h ds a w hf hi)
theorem SX.skip (h : Q .normal T L) : SX Γ n .skip Q T L := fun ds a w hf hi => wp_skip ⟨T, L, hf, hi, h⟩
theorem SX.exit {id : Nat} (h : Q (.exit id) T L) : SX Γ n (.exit id) Q T L := fun ds a w hf hi => wp_exit ⟨T, L, hf, hi, h⟩
theorem SX.ret (h : Q .ret T L) : SX Γ n .ret Q T L := fun ds a w hf hi => wp_ret ⟨T, L, hf, hi, h⟩
theorem SX.seq {x y : Code} (h : SX Γ n x (andThen (SX Γ n y Q) Q) T L) : SX Γ n (.seq x y) Q T L := fun ds a w hf hi => by
  refine wp_seq (Code.wp_mono ?_ (h ds a w hf hi))
  rintro e a' w' ⟨T', L', h1, h2, h3⟩
  cases e <;> first | exact h3 ds a' w' h1 h2 | exact ⟨T', L', h1, h2, h3⟩
/-- What follows, behind a name. -/
theorem SX.seq_k {x y : Code} (h : ∀ K : Env → Hp → Prop, (∀ T L, SX Γ n y Q T L → K T L) → SX Γ n x (andThen K Q) T L) : SX Γ n (.seq x y) Q T L := SX.seq (h _ fun _ _ h => h)
/-- What is known where x ends. -/
theorem SX.cut {x y : Code} (I : Env → Hp → Prop) (h : SX Γ n x (andThen I Q) T L) (k : ∀ T L, I T L → SX Γ n y Q T L) : SX Γ n (.seq x y) Q T L :=
  SX.seq (h.mono fun e T L h => by cases e <;> first | exact k T L h | exact h)
theorem SX.block {id : Nat} {c : Code} (h : SX Γ n c (inBlk id Q) T L) : SX Γ n (.block id c) Q T L := fun ds a w hf hi => by
  refine wp_block (Code.wp_mono ?_ (h ds a w hf hi))
  rintro e a' w' ⟨T', L', h1, h2, h3⟩
  cases e with
  | exit id' =>
    simp only [inBlk] at h3
    simp only [Exit.inBlock]
    split at h3
    · rename_i he; rw [if_pos he]; exact ⟨T', L', h1, h2, h3⟩
    · rename_i he; rw [if_neg he]; exact ⟨T', L', h1, h2, h3⟩
  | _ => exact ⟨T', L', h1, h2, h3⟩
theorem SX.cond {o : Operand} {x y : Code} {b : Bool} (hb : ev T o = .bool b) (ht : b = true → SX Γ n x Q T L) (hf : b = false → SX Γ n y Q T L) : SX Γ n (.cond o x y) Q T L := fun ds a w hft hi =>
  wp_cond_split (t := b) (by rw [hft.eval]; exact hb) (fun h => ht h ds a w hft hi) (fun h => hf h ds a w hft hi)
theorem SX.loop {c : Code} (I : Env → Hp → Prop) (μ : Env → Hp → Nat) (h₀ : I T L)
    (round : ∀ T L, I T L → SX Γ n c (andThen (fun T' L' => I T' L' ∧ μ T' L' < μ T L) Q) T L) : SX Γ n (.loop c) Q T L := fun ds a w hf hi => by
  -- the measure of a state: the least of its readings
  have key : ∀ m T L, μ T L = m → I T L → ∀ a w, Fits ds n T a → Inv Γ L w → ∀ b k cs,
      ∃ e a' w', lift Γ ds n Q e a' w' ∧ Arrives Γ.P (lone (b.at a (.code c :: .inLoop c :: k)) cs w) b k cs e a' w' := by
    intro m
    induction m using Nat.strongRecOn with
    | _ m ih =>
      intro T L hm hI a w hf hi b k cs
      obtain ⟨e, a₁, w₁, ⟨T₁, L₁, hf₁, hi₁, hq⟩, harr⟩ := round T L hI ds a w hf hi b (.inLoop c :: k) cs
      cases e with
      | normal =>
        obtain ⟨hI₁, hlt⟩ := hq
        obtain ⟨e₂, a₂, w₂, hq₂, harr₂⟩ := ih (μ T₁ L₁) (hm ▸ hlt) T₁ L₁ rfl hI₁ a₁ w₁ hf₁ hi₁ b k cs
        exact ⟨e₂, a₂, w₂, hq₂, .of_steps (Steps.trans harr (.one step_inLoop)) harr₂⟩
      | _ => exact ⟨_, a₁, w₁, ⟨T₁, L₁, hf₁, hi₁, hq⟩, .pass (x := .inLoop c) rfl (fun _ _ => .inl (by simp)) harr⟩
  intro b k cs
  obtain ⟨e, a', w', hq, harr⟩ := key _ T L rfl h₀ a w hf hi b k cs
  exact ⟨e, a', w', hq, .of_steps (.one step_loop) harr⟩
end

/-! ### calls -/
def SCall (Γ : Ctx) (f : FuncId) (args : Array Value) (L : Hp) (R : Value → Hp → Prop) : Prop :=
  ∀ w, Inv Γ L w → Calls Γ.P f args w fun e w' => ∃ v L', e = .returned v ∧ Inv Γ L' w' ∧ R v L'
theorem SCall.mono {Γ : Ctx} {f : FuncId} {args : Array Value} {L : Hp} {R R' : Value → Hp → Prop} (h : SCall Γ f args L R) (hr : ∀ v L, R v L → R' v L) : SCall Γ f args L R' :=
  fun w hi => (h w hi).mono fun _ _ ⟨v, L', h1, h2, h3⟩ => ⟨v, L', h1, h2, hr _ _ h3⟩
/-- Less is known: what is L's is let go. -/
def Less (L L' : Hp) : Prop := ∀ (Γ : Ctx) (w : World), Inv Γ L w → Inv Γ L' w
theorem Less.refl (L : Hp) : Less L L := fun _ _ h => h
theorem Less.trans {L L' L'' : Hp} (h : Less L L') (k : Less L' L'') : Less L L'' := fun _ _ hi => k _ _ (h _ _ hi)
theorem Less.drop (p : Slot) (L : Hp) : Less (p :: L) L := fun _ _ h => h.drop
theorem Less.drops {p : Slot} {L L' : Hp} (h : Less L L') : Less (p :: L) L' := (Less.drop p L).trans h
theorem Less.tail (A L : Hp) : Less (A ++ L) L := fun _ _ h => h.tail

/-- The frame at a function's begin. -/
def env0 : List Value → Env
  | [] => fun _ => undef
  | v :: vs => fun i => match i with | 0 => v | i + 1 => env0 vs i
theorem env0_getD (l : List Value) (i : Nat) : env0 l i = l.getD i undef := by
  induction l generalizing i with
  | nil => simp [env0]
  | cons v l ih => cases i <;> simp [env0, ih]

/-- Behind the body: the result in its temporaries. -/
def retQ (res : Env → Hp → Value → Prop) (R : Value → Hp → Prop) : Exit → Env → Hp → Prop
  | .normal, T, L | .ret, T, L => ∃ v L', Less L L' ∧ res T L v ∧ R v L'
  | _, _, _ => False

theorem SCall.enter {Γ : Ctx} {f : FuncId} {fn : Func} {c : Code} {n : Nat} {args : List Value} {L : Hp} {R : Value → Hp → Prop} (res : Env → Hp → Value → Prop)
    (hf : Γ.P.funcs[f]? = some fn) (hb : fn.body = some c) (hn : fn.ntmps = n) (hle : args.length ≤ n)
    (hres : ∀ T L v a w, res T L v → Fits [] n T a → Inv Γ L w → (results fn a.tmps).run Γ.P w = .ok v w)
    (h : SX Γ n c (retQ res R) (env0 args) L) : SCall Γ f args.toArray L R := fun w hi => by
  refine calls_of_wp hf hb (Code.wp_mono ?_ (h [] _ w ⟨?_, rfl, fun i => ?_⟩ hi))
  · rintro e a' w' ⟨T', L', h1, h2, h3⟩
    cases e with
    | normal => obtain ⟨v, L'', hs, hv, hr⟩ := h3; exact ⟨h1.2.1, v, hres _ _ _ _ _ hv h1 h2, v, L'', rfl, hs _ _ h2, hr⟩
    | ret => obtain ⟨v, L'', hs, hv, hr⟩ := h3; exact ⟨h1.2.1, v, hres _ _ _ _ _ hv h1 h2, v, L'', rfl, hs _ _ h2, hr⟩
    | exit => exact h3.elim
    | goto => exact h3.elim
    | panic => exact h3.elim
    | outgrown => exact h3.elim
  · simp [hn]; omega
  · rw [env0_getD]
    simp only [Array.getD_eq_getD_getElem?, List.getD_eq_getElem?_getD]
    rw [Array.getElem?_append]
    split
    · simp
    · rename_i hge
      simp at hge
      rw [List.getElem?_eq_none hge]
      simp only [Array.getElem?_replicate]
      split <;> rfl

/-- One result, two, three, four, none, in temporaries. -/
def res0 : Env → Hp → Value → Prop := fun _ _ v => v = .tuple #[]
def res1 (t : Nat) : Env → Hp → Value → Prop := fun T _ v => v = T t
def res2 (t u : Nat) : Env → Hp → Value → Prop := fun T _ v => v = .tuple #[T t, T u]
def res3 (t u x : Nat) : Env → Hp → Value → Prop := fun T _ v => v = .tuple #[T t, T u, T x]

theorem res1_ok {ds : List Deferred} {Γ : Ctx} {fn : Func} {n t : Nat} (h : fn.results = #[.tmp t]) : ∀ T L v a w, res1 t T L v → Fits ds n T a → Inv Γ L w → (results fn a.tmps).run Γ.P w = .ok v w := by
  rintro T L v a w rfl hf hi
  rw [← hf.2.2 t]
  exact results_tmp h _ _ _
theorem res2_ok {ds : List Deferred} {Γ : Ctx} {fn : Func} {n t u : Nat} (h : fn.results = #[.tmp t, .tmp u]) : ∀ T L v a w, res2 t u T L v → Fits ds n T a → Inv Γ L w → (results fn a.tmps).run Γ.P w = .ok v w := by
  rintro T L v a w rfl hf hi
  rw [← hf.2.2 t, ← hf.2.2 u]
  exact results_tmp2 h _ _ _
theorem res3_ok {ds : List Deferred} {Γ : Ctx} {fn : Func} {n t u x : Nat} (h : fn.results = #[.tmp t, .tmp u, .tmp x]) : ∀ T L v a w, res3 t u x T L v → Fits ds n T a → Inv Γ L w → (results fn a.tmps).run Γ.P w = .ok v w := by
  rintro T L v a w rfl hf hi
  rw [← hf.2.2 t, ← hf.2.2 u, ← hf.2.2 x]
  simp [results, h]
end Go.SX
set_option linter.unusedVariables false
set_option linter.unusedSimpArgs false
namespace Go.SX
open Go.RowKit

/-! ### what is asked of the table of types -/
def aggT (P : Program) (t : TypeId) : Bool := match P.underlying t with | some (.struct _) => true | some (.array _ _) => true | _ => false
def szA (P : Program) (t : TypeId) : Option (Nat × Bool) := match P.info? t, P.underlying t with | some i, some _ => some (i.size, aggT P t) | _, _ => none
def layF (P : Program) (f : Field) : Option (Nat × Nat × Bool) := (szA P f.type).map fun p => (f.offset, p.1, p.2)
def lay (P : Program) (t : TypeId) : Option (List (Nat × Nat × Bool)) := match P.underlying t with | some (.struct fs) => fs.toList.mapM (layF P) | _ => none
def elS (P : Program) (t : TypeId) : Option (TypeId × Nat × Nat) := match P.underlying t with | some (.slice e) => (P.info? e).map fun i => (e, i.size, i.bytes) | _ => none
def elA (P : Program) (t : TypeId) : Option (Nat × TypeId × Nat × Bool) := match P.underlying t with | some (.array n e) => (szA P e).map fun p => (n, e, p.1, p.2) | _ => none
def zr (P : Program) (t : TypeId) : Option (List Value) := ((P.info? t).bind (·.zero)).map fun v => v.cells.toList
def ptB (P : Program) (t : TypeId) : Bool := match P.underlying t with | some (.pointer e) => (P.info? e).isSome | _ => false
def callable (P : Program) (f : FuncId) : Bool := match P.funcs[f]? with | some fn => fn.body.isSome && !(fn.name == "runtime.NumGoroutine") | none => false

/-! ### what an operation yields -/
def Yields (Γ : Ctx) (o : Oper) (T : Env) (L : Hp) (K : Value → Hp → Prop) : Prop :=
  ∀ w, Inv Γ L w → match (execOp (ev T) o).run Γ.P w with
    | .ok (.value v) w' => ∃ L', Inv Γ L' w' ∧ K v L'
    | .ok .skip w' => ∃ L', Inv Γ L' w' ∧ K undef L'
    | .ok (.enter f args) w' => Calls Γ.P f args w' fun e w'' => ∃ v L', e = .returned v ∧ Inv Γ L' w'' ∧ K v L'
    | _ => False
def isCallV (o : Oper) : Bool := match o.op with | .call c => (match c.callee with | .value _ => true | _ => false) | _ => false
def YieldsQ (Γ : Ctx) (o : Oper) (T : Env) (L : Hp) (K : Value → Prop) : Prop :=
  ∃ v, K v ∧ ((∀ w, Inv Γ L w → (execOp (ev T) o).run Γ.P w = .ok (.value v) w) ∨ (isCallV o = true ∧ ∀ w, Inv Γ L w → Oper.quietUpon Γ.P (Inv Γ L) w v ((execOp (ev T) o).run Γ.P w)))
theorem YieldsQ.upon {Γ : Ctx} {o : Oper} {T : Env} {L : Hp} {K : Value → Prop} (h : YieldsQ Γ o T L K) : ∃ v, K v ∧ ∀ w, Inv Γ L w → Oper.quietUpon Γ.P (Inv Γ L) w v ((execOp (ev T) o).run Γ.P w) := by
  obtain ⟨v, hk, h | ⟨_, h⟩⟩ := h
  · exact ⟨v, hk, fun w hi => by rw [h w hi]; exact ⟨rfl, rfl⟩⟩
  · exact ⟨v, hk, h⟩

theorem YieldsQ.yields {Γ : Ctx} {o : Oper} {T : Env} {L : Hp} {K : Value → Hp → Prop} (h : YieldsQ Γ o T L (fun v => K v L)) : Yields Γ o T L K := fun w hi => by
  obtain ⟨v, hk, hw⟩ := h.upon
  have h1 := hw w hi
  revert h1
  generalize (execOp (ev T) o).run Γ.P w = r
  intro h1
  cases r with
  | halt x w' => exact h1.elim
  | ok nx w' =>
    cases nx <;> first | exact h1.elim | skip
    case value u => obtain ⟨rfl, rfl⟩ := h1; exact ⟨L, hi, hk⟩
    case skip => obtain ⟨rfl, rfl⟩ := h1; exact ⟨L, hi, hk⟩
    case enter f args =>
      obtain ⟨rfl, hc⟩ := h1
      exact hc.mono fun e w'' ⟨he, hw''⟩ => ⟨v, L, he, hw'', hk⟩

theorem YieldsQ.mk {Γ : Ctx} {o : Oper} {T : Env} {L : Hp} {K : Value → Prop} (v : Value) (hk : K v) (h : ∀ w, Inv Γ L w → (execOp (ev T) o).run Γ.P w = .ok (.value v) w) : YieldsQ Γ o T L K :=
  ⟨v, hk, .inl h⟩

/-! ### the parts of the word -/
def loadN (Γ : Ctx) (L : Hp) (a : Addr) : Nat → Nat → List Value → (Value → Prop) → Prop
  | _, 0, acc, K => K (.agg acc.toArray)
  | i, k + 1, acc, K => ∃ v, Cell Γ L (a.add i) v ∧ loadN Γ L a (i + 1) k (acc ++ [v]) K
def loadVC (Γ : Ctx) (t : TypeId) (L : Hp) (a : Addr) (K : Value → Prop) : Prop :=
  match szA Γ.P t with
  | some (n, true) => loadN Γ L a 0 n [] K
  | some (_, false) => ∃ v, Cell Γ L a v ∧ K v
  | none => False

/-- Two values of an array or struct type of bools, whole numbers and strings. -/
def aggEq (P : Program) (t : TypeId) (a b : Array Value) (K : Bool → Prop) : Prop :=
  P.keyTypeAt 9 t = true ∧ P.eqGuardType P.depth t = false ∧ (Value.agg a).formed P t = true ∧ (Value.agg b).formed P t = true ∧
    ∃ la lb, P.keyLits 9 t a.toList = some la ∧ P.keyLits 9 t b.toList = some lb ∧ ∀ r : Bool, (r = true ↔ la = lb) → K r
def binVC (P : Program) (op : BinOp) (t : TypeId) (x y : Value) (K : Value → Prop) (D : Prop) : Prop :=
  match op, x, y with
  | .add, .int k a, .int k' b => k = k' ∧ K (.int k (k.wrap (a + b)))
  | .sub, .int k a, .int k' b => k = k' ∧ K (.int k (k.wrap (a - b)))
  | .mul, .int k a, .int k' b => k = k' ∧ K (.int k (k.wrap (a * b)))
  | .quo, .int k a, .int k' b => k = k' ∧ b ≠ 0 ∧ K (.int k (k.wrap (a.tdiv b)))
  | .rem, .int k a, .int k' b => k = k' ∧ b ≠ 0 ∧ K (.int k (a.tmod b))
  | .and, .int k a, .int k' b => k = k' ∧ K (.int k (bits .and k a b))
  | .or, .int k a, .int k' b => k = k' ∧ K (.int k (bits .or k a b))
  | .xor, .int k a, .int k' b => k = k' ∧ K (.int k (bits .xor k a b))
  | .andNot, .int k a, .int k' b => k = k' ∧ K (.int k (bits .andNot k a b))
  | .shl, .int k a, .int _ b => 0 ≤ b ∧ K (.int k (k.wrap (a * 2 ^ (min b.toNat k.bits))))
  | .shr, .int k a, .int _ b => 0 ≤ b ∧ K (.int k (a.fdiv (2 ^ (min b.toNat k.bits))))
  | .eql, .int k a, .int k' b => k = k' ∧ K (.bool (decide (a = b)))
  | .neq, .int k a, .int k' b => k = k' ∧ K (.bool (!decide (a = b)))
  | .lss, .int k a, .int k' b => k = k' ∧ K (.bool (decide (a < b)))
  | .leq, .int k a, .int k' b => k = k' ∧ K (.bool (decide (a ≤ b)))
  | .gtr, .int k a, .int k' b => k = k' ∧ K (.bool (decide (b < a)))
  | .geq, .int k a, .int k' b => k = k' ∧ K (.bool (decide (b ≤ a)))
  | .eql, .bool a, .bool b => P.underlying t = some .bool ∧ K (.bool (a == b))
  | .neq, .bool a, .bool b => P.underlying t = some .bool ∧ K (.bool (!(a == b)))
  | .add, .string a, .string b => a.size + b.size ≤ 9223372036854775807 ∧ K (.string (a ++ b))
  | .eql, .string a, .string b => K (.bool (decide (a = b)))
  | .neq, .string a, .string b => K (.bool (!decide (a = b)))
  | .eql, .agg a, .agg b => aggEq P t a b fun r => K (.bool r)
  | .neq, .agg a, .agg b => aggEq P t a b fun r => K (.bool (!r))
  | .eql, .pointer a, .pointer none => ptB P t = true ∧ K (.bool a.isNone)
  | .neq, .pointer a, .pointer none => ptB P t = true ∧ K (.bool (!a.isNone))
  | .eql, .pointer (some a), .pointer (some b) => ptB P t = true ∧ a = b ∧ K (.bool true)
  | .neq, .pointer (some a), .pointer (some b) => ptB P t = true ∧ a = b ∧ K (.bool false)
  | .eql, .slice a _ _, .slice none 0 0 => (elS P t).isSome = true ∧ K (.bool a.isNone)
  | .neq, .slice a _ _, .slice none 0 0 => (elS P t).isSome = true ∧ K (.bool (!a.isNone))
  | _, _, _ => D

def unVC (op : UnOp) (x : Value) (K : Value → Prop) (D : Prop) : Prop :=
  match op, x with
  | .not, .bool b => K (.bool (!b))
  | .neg, .int k n => K (.int k (k.wrap (0 - n)))
  | .xor, .int k n => K (.int k (bits .xor k (if k.signed then -1 else k.max) n))
  | _, _ => D

def convVC (Γ : Ctx) (s d : TypeId) (x : Value) (L : Hp) (K : Value → Prop) (D : Prop) : Prop :=
  match x with
  | .int _ n => match Γ.P.underlying s, Γ.P.underlying d with
    | some _, some (.int k) => K (.int k (k.wrap n))
    | _, _ => D
  | .slice (some a) len _ => match Γ.P.underlying s, Γ.P.underlying d with
    | some (.slice e), some .string => Γ.P.underlying e = some (.int .u8) ∧ ∃ l : List UInt8, l.length = len ∧ (∀ j (h : j < l.length), Cell Γ L (a.add j) (.int .u8 (l[j].toNat : Int))) ∧ K (.string ⟨l.toArray⟩)
    | _, _ => D
  | .slice none _ _ => match Γ.P.underlying s, Γ.P.underlying d with
    | some (.slice e), some .string => Γ.P.underlying e = some (.int .u8) ∧ K (.string ByteArray.empty)
    | _, _ => D
  | _ => D

/-- The address of a cut. -/
def cutA (base : Option Addr) (sz m l : Nat) : Option Addr := if m = l then base else base.map (·.add (l * sz))
def optI (d : Int) : Option Value → Option Int
  | none => some d
  | some (.int _ n) => some n
  | _ => none
def sliceVC (P : Program) (t : TypeId) (x : Value) (lo hi mx : Option Value) (K : Value → Prop) (D : Prop) : Prop :=
  match x with
  | .string s => match P.underlying t, optI 0 lo, optI s.size hi, mx with
    | some .string, some l, some h, none => (0 ≤ l ∧ l ≤ h ∧ h ≤ s.size) ∧ K (.string (s.extract l.toNat h.toNat))
    | _, _, _, _ => D
  | .slice base len cap => match elS P t, optI 0 lo, optI len hi, mx with
    | some (_, sz, _), some l, some h, none => ((hi.isSome ∨ len ≤ cap) ∧ 0 ≤ l ∧ l ≤ h ∧ h ≤ cap) ∧ K (.slice (cutA base sz cap l.toNat) (h.toNat - l.toNat) (cap - l.toNat))
    | _, _, _, _ => D
  | .pointer (some a) => match elA P t, optI 0 lo, hi, mx with
    | some (n, _, sz, _), some l, none, none => (0 ≤ l ∧ l ≤ n) ∧ K (.slice (cutA (some a) sz n l.toNat) (n - l.toNat) (n - l.toNat))
    | some (n, _, sz, _), some l, some (.int _ h), none => (0 ≤ l ∧ l ≤ h ∧ h ≤ n) ∧ K (.slice (cutA (some a) sz n l.toNat) (h.toNat - l.toNat) (n - l.toNat))
    | _, _, _, _ => D
  | _ => D

def partVC (ag : Bool) (sz : Nat) (cs : Array Value) (off : Nat) (K : Value → Prop) : Prop :=
  if ag then K (.agg (cs.toList.drop off |>.take sz).toArray) else ∃ v, cs.toList[off]? = some v ∧ K v

def fieldVC (P : Program) (t : TypeId) (x : Value) (f : Nat) (K : Value → Prop) (D : Prop) : Prop :=
  match x with
  | .agg cs => match lay P t with
    | some l => match l[f]? with
      | some (off, sz, ag) => partVC ag sz cs off K
      | none => D
    | none => D
  | _ => D
def indexVC (P : Program) (t : TypeId) (x i : Value) (K : Value → Prop) (D : Prop) : Prop :=
  match x, i with
  | .agg cs, .int _ i => match elA P t with
    | some (n, _, sz, ag) => (0 ≤ i ∧ i < n) ∧ partVC ag sz cs (i.toNat * sz) K
    | none => D
  | .string s, .int _ i => P.underlying t = some .string ∧ 0 ≤ i ∧ ∃ b : UInt8, s.data.toList[i.toNat]? = some b ∧ K (.int .u8 (b.toNat : Int))
  | _, _ => D
def indexAddrVC (P : Program) (t : TypeId) (x i : Value) (K : Value → Prop) (D : Prop) : Prop :=
  match x, i with
  | .slice base len _, .int _ i => match elS P t with
    | some (_, sz, _) => (0 ≤ i ∧ i < len) ∧ ∃ a, base = some a ∧ K (.pointer (some (a.add (i.toNat * sz))))
    | none => D
  | .pointer (some a), .int _ i => match elA P t with
    | some (n, _, sz, _) => (0 ≤ i ∧ i < n) ∧ K (.pointer (some (a.add (i.toNat * sz))))
    | none => D
  | _, _ => D

def setN : List Value → Nat → List Value → List Value
  | cells, _, [] => cells
  | cells, off, c :: cs => setN (cells.set off c) (off + 1) cs
def fillL (place : Nat → Option (Nat × Nat)) : List Value → List (Nat × Value) → Option (List Value)
  | cells, [] => some cells
  | cells, (i, v) :: rest => match place i with
    | none => none
    | some (off, size) => if v.cells.size = size ∧ off + size ≤ cells.length then fillL place (setN cells off v.cells.toList) rest else none
def placeL (l : List (Nat × Nat × Bool)) (i : Nat) : Option (Nat × Nat) := match l[i]? with | some (a, b, _) => some (a, b) | none => none
def buildVC (P : Program) (t : TypeId) (parts : List (Nat × Value)) (K : Value → Prop) (D : Prop) : Prop :=
  match lay P t, zr P t with
  | some l, some z => match fillL (placeL l) z parts with
    | some cs => K (.agg cs.toArray)
    | none => D
  | _, _ => match elA P t, zr P t with
    | some (_, _, sz, _), some z => match fillL (fun i => some (i * sz, sz)) z parts with
      | some cs => K (.agg cs.toArray)
      | none => D
    | _, _ => D

def lenVC (P : Program) (ty : TypeId) (x : Value) (K : Value → Prop) (D : Prop) : Prop :=
  match x with
  | .slice _ n _ => (elS P ty).isSome = true ∧ K (.int .i64 n)
  | .string s => P.underlying ty = some .string ∧ K (.int .i64 s.size)
  | _ => D
def capVC (P : Program) (ty : TypeId) (x : Value) (K : Value → Prop) (D : Prop) : Prop :=
  match x with
  | .slice _ _ n => (elS P ty).isSome = true ∧ K (.int .i64 n)
  | _ => D

def pickVC (v x y : Value) (K : Value → Prop) (D : Prop) : Prop := match v with | .bool c => K (if c then x else y) | _ => D
def ldVC (Γ : Ctx) (t : TypeId) (v : Value) (L : Hp) (K : Value → Prop) (D : Prop) : Prop := match v with | .pointer (some a) => loadVC Γ t L a K | _ => D
def nilVC (v : Value) (K : Value → Prop) (D : Prop) : Prop := match v with | .pointer (some a) => K (.pointer (some a)) | _ => D
def faVC (P : Program) (t : TypeId) (v : Value) (f : Nat) (K : Value → Prop) (D : Prop) : Prop :=
  match v with
  | .pointer (some a) => match lay P t with
    | some l => match l[f]? with
      | some (off, sz, _) => sz ≠ 0 ∧ K (.pointer (some (a.add off)))
      | none => D
    | none => D
  | _ => D
def extVC (v : Value) (i : Nat) (K : Value → Prop) (D : Prop) : Prop := match v with | .tuple vs => ∃ v, vs.toList[i]? = some v ∧ K v | _ => D
def minVC (x y : Value) (K : Value → Prop) (D : Prop) : Prop := match x, y with | .int k a, .int _ b => K (.int k (if b < a then b else a)) | _, _ => D
def maxVC (x y : Value) (K : Value → Prop) (D : Prop) : Prop := match x, y with | .int k a, .int _ b => K (.int k (if b > a then b else a)) | _, _ => D
def qcallVC (Γ : Ctx) (f : Value) (args : Array Value) (L : Hp) (K : Value → Prop) (D : Prop) : Prop :=
  match f with
  | .func (.func k) first cap => callable Γ.P k = true ∧ ∃ v, SCall Γ k (first ++ args ++ cap) L (fun v' L' => v' = v ∧ L' = L) ∧ K v
  | _ => D

/-! ### maps of whole numbers and strings as keys -/
def mapT (P : Program) (t : TypeId) : Option (TypeDesc × Option Value) := match P.underlying t with
  | some (.map k e) => match P.underlying k with
    | some (.int kk) => some (.int kk, (P.info? e).bind (·.zero))
    | some .string => some (.string, (P.info? e).bind (·.zero))
    | _ => none
  | _ => none
def fndK (z : Option Value) (ok : Bool) (fr : Option (Nat × Value)) (K : Value → Prop) : Prop := match fr with
  | some (_, v) => K (if ok then .tuple #[v, .bool true] else v)
  | none => ∃ z0, z = some z0 ∧ K (if ok then .tuple #[z0, .bool false] else z0)
def lkVC (Γ : Ctx) (t : TypeId) (x k : Value) (ok : Bool) (L : Hp) (K : Value → Prop) (D : Prop) : Prop := match x with
  | .map none => ∃ kd z, mapT Γ.P t = some (kd, z) ∧ fndK z ok none K
  | .map (some r) => ∃ kd z, mapT Γ.P t = some (kd, z) ∧ ∃ (i : Nat) (es : List MapEntry) (ck : Nat), L[i]? = some (some (r, .map es.toArray ck)) ∧ ∃ fr, Instr.findNow kd k es 0 = some fr ∧ fndK z ok fr K
  | _ => D

/-- The quiet operations. -/
def VQ (Γ : Ctx) (o : Oper) (T : Env) (L : Hp) (K : Value → Prop) : Prop :=
  match o.op with
  | .move x => K (ev T x)
  | .assign x => K (ev T x)
  | .pick c a b => pickVC (ev T c) (ev T a) (ev T b) K False
  | .load t a => ldVC Γ t (ev T a) L K False
  | .nilCheck x => nilVC (ev T x) K False
  | .binOp op t x y _ => binVC Γ.P op t (ev T x) (ev T y) K (YieldsQ Γ o T L K)
  | .unOp op _ x => unVC op (ev T x) K False
  | .convert s d x => convVC Γ s d (ev T x) L K (YieldsQ Γ o T L K)
  | .makeFunc fn first cap => K (.func fn (first.map (ev T)) (cap.map (ev T)))
  | .fieldAddr t x f => faVC Γ.P t (ev T x) f K False
  | .field t x f => fieldVC Γ.P t (ev T x) f K False
  | .indexAddr t x i => indexAddrVC Γ.P t (ev T x) (ev T i) K False
  | .index t x i => indexVC Γ.P t (ev T x) (ev T i) K False
  | .slice t x lo hi mx => sliceVC Γ.P t (ev T x) (lo.map (ev T)) (hi.map (ev T)) (mx.map (ev T)) K False
  | .extract x i => extVC (ev T x) i K False
  | .lookup t x k ok => lkVC Γ t (ev T x) (ev T k) ok L K False
  | .build t parts => buildVC Γ.P t (parts.toList.map fun p => (p.1, ev T p.2)) K False
  | .call c => match c.callee, c.args.toList, c.argTypes.toList with
    | .builtin .len, [x], [ty] => lenVC Γ.P ty (ev T x) K False
    | .builtin .cap, [x], [ty] => capVC Γ.P ty (ev T x) K False
    | .builtin .min, [x, y], _ => minVC (ev T x) (ev T y) K False
    | .builtin .max, [x, y], _ => maxVC (ev T x) (ev T y) K False
    | .value f, _, _ => qcallVC Γ (ev T f) (c.args.map (ev T)) L K False
    | _, _, _ => YieldsQ Γ o T L K
  | _ => YieldsQ Γ o T L K
end Go.SX
set_option linter.unusedVariables false
set_option linter.unusedSimpArgs false
namespace Go.SX
open Go.RowKit
section
variable {P : Program} {Γ : Ctx} {T : Env} {L : Hp}

theorem toList_beq (a b : ByteArray) : (a.toList == b.toList) = decide (a = b) := by
  have key : a.toList = b.toList ↔ a = b := by
    constructor
    · intro h
      have ha := Go.ByteArray.toList_eq a
      have hb := Go.ByteArray.toList_eq b
      rw [ha, hb] at h
      cases a; cases b
      simp at h
      simp [h]
    · rintro rfl; rfl
  by_cases h : a = b
  · simp [h]
  · have h2 : ¬ a.toList = b.toList := fun e => h (key.1 e)
    simp [h, h2]

theorem ptB_some {t : TypeId} (h : ptB P t = true) : ∃ e i, P.underlying t = some (.pointer e) ∧ P.info? e = some i := by
  unfold ptB at h
  split at h
  · rename_i e he
    obtain ⟨i, hi⟩ := Option.isSome_iff_exists.1 h
    exact ⟨e, i, he, hi⟩
  · cases h
theorem run_ptr_nil {t e : TypeId} {i : TypeInfo} (hu : P.underlying t = some (.pointer e)) (hi : P.info? e = some i) (a : Option Addr) (w : World) : (Op.equal t (.pointer a) (.pointer none)).run P w = .ok a.isNone w := by
  have h : ∀ d : Nat, (Op.equalIn (d + 1) t (.pointer a) (.pointer none)).run P w = .ok a.isNone w := fun d => by
    cases a <;> simp [Op.equalIn, run_underlying hu, sizeOf, typeInfo, hi]
  exact h 9999
theorem run_ptr_same {t e : TypeId} {i : TypeInfo} (hu : P.underlying t = some (.pointer e)) (hi : P.info? e = some i) (a : Addr) (w : World) : (Op.equal t (.pointer (some a)) (.pointer (some a))).run P w = .ok true w := by
  have h : ∀ d : Nat, (Op.equalIn (d + 1) t (.pointer (some a)) (.pointer (some a))).run P w = .ok true w := fun d => by
    simp [Op.equalIn, run_underlying hu, sizeOf, typeInfo, hi, run_sameAddr_same]
  exact h 9999
theorem run_sl_nil {t e : TypeId} (hu : P.underlying t = some (.slice e)) (a : Option Addr) (l c : Nat) (w : World) : (Op.equal t (.slice a l c) (.slice none 0 0)).run P w = .ok a.isNone w := by
  have h : ∀ d : Nat, (Op.equalIn (d + 1) t (.slice a l c) (.slice none 0 0)).run P w = .ok a.isNone w := fun d => by
    cases a <;> simp [Op.equalIn, run_underlying hu]
  exact h 9999
theorem elS_sl {t : TypeId} (h : (elS P t).isSome = true) : ∃ e, P.underlying t = some (.slice e) := by
  unfold elS at h
  split at h
  · rename_i e he; exact ⟨e, he⟩
  · cases h
theorem binVC_sound {op : BinOp} {t : TypeId} {x y : Value} {K : Value → Prop} {D : Prop} (h : binVC P op t x y K D) :
    (∃ v, K v ∧ ∀ (X Y : Operand) (w : World), ((do eqGuard op t X Y x y; binOp op t x y) : Sem Value).run P w = .ok v w) ∨ D := by
  unfold binVC at h
  split at h
  case h_31 => exact .inr h
  all_goals refine .inl ?_
  case h_4 | h_5 =>
    obtain ⟨rfl, hb, hk⟩ := h
    refine ⟨_, hk, fun X Y w => ?_⟩
    simp [go_sem, Op.intDiv, hb]
  case h_10 | h_11 =>
    obtain ⟨h0, hk⟩ := h
    refine ⟨_, hk, fun X Y w => ?_⟩
    simp [eqGuard, binOp, Op.shift, Int.not_lt.2 h0]
  case h_20 =>
    obtain ⟨h0, hk⟩ := h
    refine ⟨_, hk, fun X Y w => ?_⟩
    have : ¬ (((_ : Nat) : Int) > IntKind.i64.max) := Int.not_lt.2 (by rw [IntKind.max_i64]; exact Int.ofNat_le.2 h0)
    simp [go_sem, binOp, Op.stringOp, eqGuard]
    omega
  case h_23 | h_24 =>
    obtain ⟨hk, hg, hfa, hfb, la, lb, hla, hlb, hK⟩ := h
    obtain ⟨r, hr, hiff⟩ := run_equalIn_deep (P := P) 9991 9 t hk default 9 9 (.agg _) (.agg _) la lb hfa hfb hla hlb
    refine ⟨_, hK r hiff, fun X Y w => ?_⟩
    obtain ⟨r', hr', hiff'⟩ := run_equalIn_deep (P := P) 9991 9 t hk w 9 9 (.agg _) (.agg _) la lb hfa hfb hla hlb
    have hrr : r' = r := by
      have h2 := hiff'.trans hiff.symm
      cases r <;> cases r' <;> simp_all
    subst hrr
    have hr2 : (Op.equalIn Op.maxDepth t (.agg _) (.agg _)).run P w = .ok r' w := hr'
    simp [go_sem, hg, hr2, binOp, Op.equal]
  case h_25 | h_26 =>
    obtain ⟨hp, h⟩ := h
    obtain ⟨e, i, hu, hi⟩ := ptB_some hp
    refine ⟨_, h, fun X Y w => ?_⟩
    simp [eqGuard, binOp, Sem.run_bind, run_ptr_nil hu hi]
  case h_27 | h_28 =>
    obtain ⟨hp, rfl, h⟩ := h
    obtain ⟨e, i, hu, hi⟩ := ptB_some hp
    refine ⟨_, h, fun X Y w => ?_⟩
    simp [eqGuard, binOp, Sem.run_bind, run_ptr_same hu hi]
  case h_29 | h_30 =>
    obtain ⟨hp, h⟩ := h
    obtain ⟨e, hu⟩ := elS_sl hp
    refine ⟨_, h, fun X Y w => ?_⟩
    simp [eqGuard, binOp, Sem.run_bind, run_sl_nil hu]
  case h_21 =>
    refine ⟨_, h, fun X Y w => ?_⟩
    simp [eqGuard, binOp, Op.stringOp, toList_beq]
  case h_22 =>
    refine ⟨_, h, fun X Y w => ?_⟩
    simp [eqGuard, binOp, Op.stringOp, toList_beq]
  case h_18 | h_19 =>
    obtain ⟨hu, hk⟩ := h
    refine ⟨_, hk, fun X Y w => ?_⟩
    simp [go_sem, hu]
  all_goals
    obtain ⟨rfl, hk⟩ := h
    refine ⟨_, hk, fun X Y w => ?_⟩
    first
    | (simp [go_sem, Op.intArith]; done)
    | (rename_i k a b; by_cases hab : a = b <;> simp [eqGuard, binOp, Op.intCmp, hab])

theorem unVC_sound {op : UnOp} {x : Value} {K : Value → Prop} {D : Prop} (h : unVC op x K D) : (∃ v, K v ∧ ∀ w : World, (Op.unary op x).run P w = .ok v w) ∨ D := by
  unfold unVC at h
  split at h
  · exact .inl ⟨_, h, fun w => by simp [Op.unary]⟩
  · exact .inl ⟨_, h, fun w => by simp [Op.unary, Op.intArith]⟩
  · exact .inl ⟨_, h, fun w => by simp [Op.unary, go_sem]⟩
  · exact .inr h

theorem loadN_sound {a : Addr} {K : Value → Prop} : ∀ (k i : Nat) (acc : List Value), loadN Γ L a i k acc K →
    ∃ vs : List Value, vs.length = k ∧ K (.agg (acc ++ vs).toArray) ∧ ∀ j v, vs[j]? = some v → Cell Γ L (a.add (i + j)) v := by
  intro k
  induction k with
  | zero => intro i acc h; exact ⟨[], rfl, by simpa [loadN] using h, fun j v hj => by simp at hj⟩
  | succ k ih =>
    intro i acc h
    obtain ⟨v, hc, h⟩ := h
    obtain ⟨vs, hl, hk, hcs⟩ := ih (i + 1) (acc ++ [v]) h
    refine ⟨v :: vs, by simp [hl], by simpa using hk, fun j u hj => ?_⟩
    cases j with
    | zero => simp at hj; subst hj; simpa using hc
    | succ j =>
      have := hcs j u (by simpa using hj)
      rwa [Nat.add_assoc, Nat.add_comm 1 j] at this

theorem szA_some {t : TypeId} {n : Nat} {b : Bool} (h : szA P t = some (n, b)) : ∃ i d, P.info? t = some i ∧ i.size = n ∧ P.underlying t = some d ∧ aggT P t = b := by
  unfold szA at h
  split at h
  · rename_i i d hi hd
    simp at h
    exact ⟨i, d, hi, h.1, hd, h.2⟩
  · cases h
theorem run_isAgg {t : TypeId} {n : Nat} {b : Bool} (h : szA P t = some (n, b)) (w : World) : (isAgg t).run P w = .ok b w := by
  obtain ⟨i, d, hi, hs, hd, hb⟩ := szA_some h
  unfold aggT at hb
  unfold isAgg
  simp only [Sem.run_bind, run_underlying hd, Result.andThen]
  rw [hd] at hb
  cases d <;> simp_all
theorem run_sizeOf {t : TypeId} {n : Nat} {b : Bool} (h : szA P t = some (n, b)) (w : World) : (sizeOf t).run P w = .ok n w := by
  obtain ⟨i, d, hi, hs, hd, hb⟩ := szA_some h
  simp [sizeOf, typeInfo, hi, hs]

theorem loadVC_sound {t : TypeId} {a : Addr} {K : Value → Prop} (h : loadVC Γ t L a K) : ∃ v, K v ∧ ∀ w, Inv Γ L w → (loadVar t a).run Γ.P w = .ok v w := by
  unfold loadVC at h
  split at h
  · rename_i n hs
    obtain ⟨vs, hl, hk, hc⟩ := loadN_sound _ _ _ h
    refine ⟨_, hk, fun w hi => ?_⟩
    have := run_loadCells_list (P := Γ.P) w a vs (fun j v hj => by have := (hc j v hj).real hi; simpa using this)
    rw [hl] at this
    simp [loadVar, run_isAgg hs, run_sizeOf hs, this]
  · rename_i n hs
    obtain ⟨v, hc, hk⟩ := h
    refine ⟨v, hk, fun w hi => ?_⟩
    simp [loadVar, run_isAgg hs, hc.real hi]
  · exact h.elim

theorem elS_some {t e : TypeId} {n b : Nat} (h : elS P t = some (e, n, b)) : P.underlying t = some (.slice e) ∧ ∃ i, P.info? e = some i ∧ i.size = n ∧ i.bytes = b := by
  unfold elS at h
  split at h
  · rename_i e' he
    obtain ⟨i, hi, hx⟩ := Option.map_eq_some_iff.1 h
    simp at hx
    obtain ⟨rfl, h1, h2⟩ := hx
    exact ⟨he, i, hi, h1, h2⟩
  · cases h
theorem elS_isSome {t : TypeId} (h : (elS P t).isSome = true) : ∃ e, P.underlying t = some (.slice e) := by
  obtain ⟨⟨e, n, b⟩, h⟩ := Option.isSome_iff_exists.1 h
  exact ⟨e, (elS_some h).1⟩
theorem elA_some {t e : TypeId} {n s : Nat} {b : Bool} (h : elA P t = some (n, e, s, b)) : P.underlying t = some (.array n e) ∧ szA P e = some (s, b) := by
  unfold elA at h
  split at h
  · rename_i n' e' he
    obtain ⟨i, hi, hx⟩ := Option.map_eq_some_iff.1 h
    simp at hx
    obtain ⟨rfl, rfl, h1, h2⟩ := hx
    refine ⟨he, ?_⟩
    rw [hi, ← h1, ← h2]
  · cases h
theorem sizeOf_info {t : TypeId} {i : TypeInfo} (h : P.info? t = some i) (w : World) : (sizeOf t).run P w = .ok i.size w := by simp [sizeOf, typeInfo, h]

theorem mapM_getElem? {α β : Type} (f : α → Option β) : ∀ (l : List α) (r : List β), l.mapM f = some r → r.length = l.length ∧ ∀ (i : Nat) (x : β), r[i]? = some x → ∃ a, l[i]? = some a ∧ f a = some x := by
  intro l
  induction l with
  | nil => intro r h; simp at h; subst h; simp
  | cons a l ih =>
    intro r h
    simp only [List.mapM_cons, bind, Option.bind] at h
    cases hf : f a with
    | none => simp [hf] at h
    | some b =>
      simp only [hf] at h
      cases hl : l.mapM f with
      | none => simp [hl] at h
      | some r' =>
        simp [hl] at h
        subst h
        obtain ⟨h1, h2⟩ := ih r' hl
        refine ⟨by simp [h1], fun i x hx => ?_⟩
        cases i with
        | zero => simp at hx; subst hx; exact ⟨a, rfl, hf⟩
        | succ i => exact h2 i x (by simpa using hx)

theorem lay_some {t : TypeId} {l : List (Nat × Nat × Bool)} (h : lay P t = some l) : ∃ fs, P.underlying t = some (.struct fs) ∧ fs.toList.mapM (layF P) = some l := by
  unfold lay at h
  split at h
  · rename_i fs hf
    exact ⟨fs, hf, h⟩
  · cases h
theorem lay_at {t : TypeId} {l : List (Nat × Nat × Bool)} {f off sz : Nat} {ag : Bool} (h : lay P t = some l) (hf : l[f]? = some (off, sz, ag)) :
    ∃ fs fd, P.underlying t = some (.struct fs) ∧ fs[f]? = some fd ∧ fd.offset = off ∧ szA P fd.type = some (sz, ag) := by
  obtain ⟨fs, hu, hm⟩ := lay_some h
  obtain ⟨_, h2⟩ := mapM_getElem? _ _ _ hm
  obtain ⟨fd, hfd, hx⟩ := h2 _ _ hf
  unfold layF at hx
  obtain ⟨p, hp, he⟩ := Option.map_eq_some_iff.1 hx
  simp at he
  obtain ⟨h1, h2, h3⟩ := he
  refine ⟨fs, fd, hu, by simpa using hfd, h1, ?_⟩
  rw [hp, ← h2, ← h3]

theorem partVC_sound {ag : Bool} {sz off : Nat} {cs : Array Value} {K : Value → Prop} {t : TypeId} (hs : szA P t = some (sz, ag)) (h : partVC ag sz cs off K) : ∃ v, K v ∧ ∀ w, (part t cs off).run P w = .ok v w := by
  unfold partVC at h
  split at h
  · rename_i hag
    subst hag
    refine ⟨_, h, fun w => ?_⟩
    simp [part, run_isAgg hs, run_sizeOf hs]
    apply Array.ext'
    simp [List.extract_eq_take_drop]
  · rename_i hag
    simp at hag
    subst hag
    obtain ⟨v, hv, hk⟩ := h
    refine ⟨v, hk, fun w => ?_⟩
    have : cs[off]? = some v := by simpa using hv
    simp [part, run_isAgg hs, this]

theorem setN_fold : ∀ (cs : List Value) (cells : List Value) (off k : Nat), (cs.zipIdx k).foldl (fun (r : Array Value) x => r.setIfInBounds (off + x.2) x.1) cells.toArray = (setN cells (off + k) cs).toArray := by
  intro cs
  induction cs with
  | nil => intro cells off k; rfl
  | cons c cs ih =>
    intro cells off k
    simp only [List.zipIdx_cons, List.foldl_cons, setN]
    rw [show cells.toArray.setIfInBounds (off + k) c = (cells.set (off + k) c).toArray by simp, ih, Nat.add_assoc]
theorem fillL_sound {place : Nat → Option (Nat × Nat)} : ∀ (parts : List (Nat × Value)) (cells r : List Value), fillL place cells parts = some r → Instr.fill place cells.toArray parts = some r.toArray := by
  intro parts
  induction parts with
  | nil => intro cells r h; simp [fillL] at h; simp [Instr.fill, h]
  | cons p rest ih =>
    intro cells r h
    obtain ⟨i, v⟩ := p
    simp only [fillL] at h
    simp only [Instr.fill]
    cases hp : place i with
    | none => simp [hp] at h
    | some q =>
      obtain ⟨off, size⟩ := q
      simp only [hp] at h
      split at h
      · rename_i hc
        obtain ⟨h1, h2⟩ := hc
        have hc2 : ¬ ((decide (v.cells.size ≠ size) || decide (off + v.cells.size > cells.toArray.size)) = true) := by
          simp [h1]; omega
        dsimp only
        rw [if_neg hc2]
        have hf := setN_fold v.cells.toList cells off 0
        rw [Nat.add_zero] at hf
        have : v.cells.zipIdx.foldl (fun (cs : Array Value) (x : Value × Nat) => cs.setIfInBounds (off + x.2) x.1) cells.toArray = (setN cells off v.cells.toList).toArray := by
          rw [← hf, ← Array.foldl_toList]
          simp
        have hgoal := ih _ _ h
        rw [← this] at hgoal
        exact hgoal
      · cases h
end
end Go.SX
set_option linter.unusedVariables false
set_option linter.unusedSimpArgs false
namespace Go.SX
open Go.RowKit
section
variable {Γ : Ctx} {T : Env} {L : Hp}

theorem bytes_of_fold : ∀ (l : List UInt8) (s : ByteArray), ((l.map fun b => (b.toNat : Int)).foldl (fun (r : ByteArray) (n : Int) => r.push (UInt8.ofNat n.toNat)) s) = ⟨s.data ++ l.toArray⟩ := by
  intro l
  induction l with
  | nil => intro s; cases s; simp
  | cons b l ih =>
    intro s
    simp only [List.map_cons, List.foldl_cons, Int.toNat_natCast]
    rw [ih]
    cases s
    simp [ByteArray.push]

theorem convVC_sound {s d : TypeId} {x : Value} {K : Value → Prop} {D : Prop} (h : convVC Γ s d x L K D) : (∃ v, K v ∧ ∀ w, Inv Γ L w → (convert s d x).run Γ.P w = .ok v w) ∨ D := by
  unfold convVC at h
  split at h
  · split at h
    · rename_i d0 k' hs hd
      refine .inl ⟨_, h, fun w _ => ?_⟩
      simp [convert, run_underlying hs, run_underlying hd, Conv.intToInt]
    · exact .inr h
  · rename_i a len cap
    split at h
    · rename_i e hs hd
      obtain ⟨he, l, hl, hc, hk⟩ := h
      refine .inl ⟨_, hk, fun w hi => ?_⟩
      rw [run_convert_bytes_string w s d e _ _ _ hs he hd]
      have hload : (loadCells a len).run Γ.P w = .ok ((l.map fun b => (b.toNat : Int)).map (Value.int .u8)).toArray w := by
        have := run_loadCells_list (P := Γ.P) w a ((l.map fun b => (b.toNat : Int)).map (Value.int .u8)) (fun j v hj => by
          simp only [List.getElem?_map] at hj
          cases hb : l[j]? with
          | none => simp [hb] at hj
          | some b =>
            simp [hb] at hj
            subst hj
            obtain ⟨hlt, rfl⟩ := List.getElem?_eq_some_iff.1 hb
            exact (hc j hlt).real hi)
        simpa [hl] using this
      rw [run_bytesToString w a len cap _ hload, bytes_of_fold]
      simp
    · exact .inr h
  · split at h
    · rename_i e hs hd
      obtain ⟨he, hk⟩ := h
      refine .inl ⟨_, hk, fun w hi => ?_⟩
      exact run_convert_bytes_nil w s e hs he _ _ d hd
    · exact .inr h
  · exact .inr h

theorem optI_spec {d l : Int} {x : Option Value} (h : optI d x = some l) : (x = none ∧ l = d) ∨ ∃ k, x = some (.int k l) := by
  unfold optI at h
  split at h
  · exact .inl ⟨rfl, by simpa using h.symm⟩
  · simp at h; subst h; exact .inr ⟨_, rfl⟩
  · cases h

theorem run_sliceBound {P : Program} {w : World} {k : IntKind} {i : Int} {y : Nat} {c : BoundsCode} (h0 : 0 ≤ i) (h1 : i ≤ y) : (Instr.sliceBound (.int k i) y c).run P w = .ok i.toNat w := by
  simp [Instr.sliceBound, asIntOf, h0, h1]
theorem run_sliceBounds {P : Program} {w : World} {b : Bool} {len cap : Nat} {lo hi : Option Value} {l h : Int} (hl : optI 0 lo = some l) (hh : optI len hi = some h) (h0 : 0 ≤ l) (h1 : l ≤ h) (h2 : h ≤ cap) (h3 : hi.isSome ∨ len ≤ cap) :
    (Instr.sliceBounds b len cap lo hi none).run P w = .ok (l.toNat, h.toNat, cap) w := by
  rcases optI_spec hl with ⟨rfl, rfl⟩ | ⟨k, rfl⟩ <;> rcases optI_spec hh with ⟨rfl, rfl⟩ | ⟨k', rfl⟩
  · simp [Instr.sliceBounds]
  · simp [Instr.sliceBounds, run_sliceBound (show 0 ≤ h by omega) h2]
  · simp [Instr.sliceBounds, run_sliceBound h0 h1]
  · have e : l ≤ ((h.toNat : Nat) : Int) := by omega
    simp [Instr.sliceBounds, run_sliceBound (show 0 ≤ h by omega) h2, run_sliceBound h0 e]

theorem sliceVC_sound {P : Program} {t : TypeId} {x : Value} {lo hi mx : Option Value} {K : Value → Prop} {D : Prop} (h : sliceVC P t x lo hi mx K D) :
    (∃ v, K v ∧ ∀ w, (Instr.sliceAt t x lo hi mx).run P w = .ok v w) ∨ D := by
  unfold sliceVC at h
  split at h
  · rename_i s
    split at h
    · rename_i l hh hu hl hhi
      obtain ⟨⟨h0, h1, h2⟩, hk⟩ := h
      refine .inl ⟨_, hk, fun w => ?_⟩
      have hb := run_sliceBounds (P := P) (w := w) (b := false) (len := s.size) (cap := s.size) hl hhi h0 h1 h2 (.inr (Nat.le_refl _))
      simp [Instr.sliceAt, Instr.slice, run_underlying hu, hb]
    · exact .inr h
  · rename_i base len cap
    split at h
    · rename_i e sz by_ l hh hs hl hhi
      obtain ⟨⟨h3, h0, h1, h2⟩, hk⟩ := h
      obtain ⟨hu, i, hi1, hi2, hi3⟩ := elS_some hs
      refine .inl ⟨_, hk, fun w => ?_⟩
      have hb := run_sliceBounds (P := P) (w := w) (b := true) (len := len) (cap := cap) hl hhi h0 h1 h2 h3
      simp [Instr.sliceAt, Instr.slice, run_underlying hu, hb, sizeOf_info hi1, hi2, cutA]
    · exact .inr h
  · rename_i a
    split at h
    · rename_i n e sz ag l hs hl
      obtain ⟨⟨h0, h1⟩, hk⟩ := h
      obtain ⟨hu, hz⟩ := elA_some hs
      refine .inl ⟨_, hk, fun w => ?_⟩
      have hb := run_sliceBounds (P := P) (w := w) (b := false) (len := n) (cap := n) (hi := none) hl rfl h0 h1 (Int.le_refl _) (.inr (Nat.le_refl _))
      simp [Instr.sliceAt, run_underlying hu, Instr.sureAddr, hb, run_sizeOf hz, cutA]
      split <;> simp_all
    · rename_i n e sz ag l k hh hs hl
      obtain ⟨⟨h0, h1, h2⟩, hk⟩ := h
      obtain ⟨hu, hz⟩ := elA_some hs
      refine .inl ⟨_, hk, fun w => ?_⟩
      have hb := run_sliceBounds (P := P) (w := w) (b := false) (len := n) (cap := n) (hi := some (.int k hh)) hl rfl h0 h1 h2 (.inr (Nat.le_refl _))
      simp [Instr.sliceAt, run_underlying hu, Instr.sureAddr, hb, run_sizeOf hz, cutA]
      split <;> simp_all
    · exact .inr h
  · exact .inr h

theorem fieldVC_sound {P : Program} {t : TypeId} {x : Value} {f : Nat} {K : Value → Prop} {D : Prop} (h : fieldVC P t x f K D) : (∃ v, K v ∧ ∀ w, (Instr.field t x f).run P w = .ok v w) ∨ D := by
  unfold fieldVC at h
  split at h
  · split at h
    · rename_i cs l hl
      split at h
      · rename_i off sz ag hf
        obtain ⟨fs, fd, hu, hfd, ho, hs⟩ := lay_at hl hf
        obtain ⟨v, hk, hv⟩ := partVC_sound hs h
        refine .inl ⟨v, hk, fun w => ?_⟩
        simp [Instr.field, run_underlying hu, hfd, asAgg, ho, hv]
      · exact .inr h
    · exact .inr h
  · exact .inr h
theorem indexVC_sound {P : Program} {t : TypeId} {x i : Value} {K : Value → Prop} {D : Prop} (h : indexVC P t x i K D) : (∃ v, K v ∧ ∀ w, (Instr.index t x i).run P w = .ok v w) ∨ D := by
  unfold indexVC at h
  split at h
  · split at h
    · rename_i cs k i n e sz ag hs
      obtain ⟨⟨h0, h1⟩, h⟩ := h
      obtain ⟨hu, hz⟩ := elA_some hs
      obtain ⟨v, hk, hv⟩ := partVC_sound hz h
      refine .inl ⟨v, hk, fun w => ?_⟩
      simp [Instr.index, run_underlying hu, asIntOf, h0, h1, run_sizeOf hz, hv]
    · exact .inr h
  · rename_i s k i
    obtain ⟨hu, h0, b, hb, hk⟩ := h
    refine .inl ⟨_, hk, fun w => ?_⟩
    have : s[i.toNat]? = some b := by
      obtain ⟨hlt, he⟩ := List.getElem?_eq_some_iff.1 hb
      have hlt' : i.toNat < s.size := by simpa using hlt
      rw [getElem?_pos s i.toNat hlt']
      exact congrArg some (by simp only [Array.getElem_toList] at he; exact he)
    simp [Instr.index, run_underlying hu, asIntOf, h0, this]
  · exact .inr h
theorem indexAddrVC_sound {P : Program} {t : TypeId} {x i : Value} {K : Value → Prop} {D : Prop} (h : indexAddrVC P t x i K D) : (∃ v, K v ∧ ∀ w, (Instr.indexAt t x i).run P w = .ok v w) ∨ D := by
  unfold indexAddrVC at h
  split at h
  · split at h
    · rename_i base len cap k i e sz by_ hs
      obtain ⟨⟨h0, h1⟩, a, rfl, hk⟩ := h
      obtain ⟨hu, i', hi1, hi2, hi3⟩ := elS_some hs
      refine .inl ⟨_, hk, fun w => ?_⟩
      simp [Instr.indexAt, run_underlying hu, asIntOf, h0, h1, sizeOf_info hi1, hi2]
    · exact .inr h
  · split at h
    · rename_i a k i n e sz ag hs
      obtain ⟨⟨h0, h1⟩, hk⟩ := h
      obtain ⟨hu, hz⟩ := elA_some hs
      refine .inl ⟨_, hk, fun w => ?_⟩
      simp [Instr.indexAt, run_underlying hu, asIntOf, Instr.sureAddr, h0, h1, run_sizeOf hz]
    · exact .inr h
  · exact .inr h

theorem zr_some {P : Program} {t : TypeId} {z : List Value} (h : zr P t = some z) (w : World) : ∃ v, (zeroValue t).run P w = .ok v w ∧ v.cells.toList = z := by
  unfold zr at h
  obtain ⟨v, hv, rfl⟩ := Option.map_eq_some_iff.1 h
  obtain ⟨i, hi, hz⟩ := Option.bind_eq_some_iff.1 hv
  exact ⟨v, by simp [zeroValue, typeInfo, hi, hz], rfl⟩

theorem run_mapM_places {P : Program} {w : World} : ∀ (fs : List Field) (l : List (Nat × Nat × Bool)), fs.mapM (layF P) = some l →
    (fs.mapM (fun f => (do pure (f.offset, ← sizeOf f.type) : Sem (Nat × Nat)))).run P w = .ok (l.map fun p => (p.1, p.2.1)) w := by
  intro fs
  induction fs with
  | nil => intro l h; simp at h; subst h; simp
  | cons f fs ih =>
    intro l h
    simp only [List.mapM_cons, bind, Option.bind] at h
    cases hf : layF P f with
    | none => simp [hf] at h
    | some b =>
      simp only [hf] at h
      cases hl : fs.mapM (layF P) with
      | none => simp [hl] at h
      | some r' =>
        simp [hl] at h
        subst h
        obtain ⟨p, hp, he⟩ := Option.map_eq_some_iff.1 hf
        have hsz := run_sizeOf (P := P) (t := f.type) (n := p.1) (b := p.2) hp w
        have hih := ih r' hl
        simp only [List.mapM_cons, Sem.run_bind, hsz, Result.andThen_ok, Sem.run_pure, hih]
        simp [← he]
theorem buildVC_sound {P : Program} {t : TypeId} {parts : List (Nat × Value)} {K : Value → Prop} {D : Prop} (h : buildVC P t parts K D) : (∃ v, K v ∧ ∀ w, (Instr.build t parts.toArray).run P w = .ok v w) ∨ D := by
  unfold buildVC at h
  split at h
  · rename_i l z hl hz
    split at h
    · rename_i cs hf
      obtain ⟨fs, hu, hm⟩ := lay_some hl
      refine .inl ⟨_, h, fun w => ?_⟩
      obtain ⟨v, hv, hc⟩ := zr_some hz w
      have hp := run_mapM_places (P := P) (w := w) _ _ hm
      have hfill := fillL_sound _ _ _ hf
      have hplace : (fun i => (l.map fun p => (p.1, p.2.1)).toArray[i]?) = placeL l := by
        funext i
        simp only [placeL, List.getElem?_toArray, List.getElem?_map]
        cases l[i]? <;> simp
      have hc' : v.cells = z.toArray := by rw [← hc]
      rw [← hplace] at hfill
      have hm2 : (fs.mapM (fun f => (do pure (f.offset, ← sizeOf f.type) : Sem (Nat × Nat)))).run P w = .ok (l.map fun p => (p.1, p.2.1)).toArray w := by
        rw [Array.mapM_eq_mapM_toList, Sem.run_map, hp]
        rfl
      simp only [Instr.build, Sem.run_bind, hv, Result.andThen_ok, run_underlying hu, hm2, hc', hfill]
      simp
    · exact .inr h
  · split at h
    · rename_i n e sz ag z hs hz
      split at h
      · rename_i cs hf
        obtain ⟨hu, hz2⟩ := elA_some hs
        refine .inl ⟨_, h, fun w => ?_⟩
        obtain ⟨v, hv, hc⟩ := zr_some hz w
        have hc' : v.cells = z.toArray := by rw [← hc]
        have hfill := fillL_sound _ _ _ hf
        simp only [Instr.build, Sem.run_bind, hv, Result.andThen_ok, run_underlying hu, run_sizeOf hz2, hc', hfill]
        simp
      · exact .inr h
    · exact .inr h

theorem mapT_some {P : Program} {t : TypeId} {kd : TypeDesc} {z : Option Value} (h : mapT P t = some (kd, z)) :
    ∃ k e, P.underlying t = some (.map k e) ∧ P.underlying k = some kd ∧ z = (P.info? e).bind (·.zero) ∧ ((∃ kk, kd = .int kk) ∨ kd = .string) := by
  unfold mapT at h
  split at h
  · rename_i k e hu
    split at h
    · rename_i kk hk
      cases h
      exact ⟨k, e, hu, hk, rfl, .inl ⟨_, rfl⟩⟩
    · rename_i hk
      cases h
      exact ⟨k, e, hu, hk, rfl, .inr rfl⟩
    · cases h
  · cases h
theorem run_checkKey {P : Program} {k : TypeId} {kd : TypeDesc} (hk : P.underlying k = some kd) (hs : (∃ kk, kd = .int kk) ∨ kd = .string) (b : Bool) (v : Value) (w : World) : (Instr.checkKey b 10000 k v).run P w = .ok () w := by
  rcases hs with ⟨kk, rfl⟩ | rfl
  · show ((do match ← underlying k, v with | _, _ => _ : Sem Unit)).run P w = _
    simp [Sem.run_bind, run_underlying hk]
  · show ((do match ← underlying k, v with | _, _ => _ : Sem Unit)).run P w = _
    simp [Sem.run_bind, run_underlying hk]
theorem run_findKey {P : Program} {k : TypeId} {kd : TypeDesc} (hk : P.underlying k = some kd) {v : Value} {es : List MapEntry} {fr : Option (Nat × Value)} (hf : Instr.findNow kd v es 0 = some fr) (w : World) : (Instr.findKey k v es).run P w = .ok fr w := by
  simp [Instr.findKey, Sem.run_bind, run_underlying hk, hf]
theorem run_zero {P : Program} {e : TypeId} {z0 : Value} (h : (P.info? e).bind (·.zero) = some z0) (w : World) : (zeroValue e).run P w = .ok z0 w := by
  obtain ⟨i, hi, hz⟩ := Option.bind_eq_some_iff.1 h
  simp [zeroValue, typeInfo, hi, hz]
theorem run_getMap {P : Program} {w : World} {r : Nat} {es : Array MapEntry} {ck : Nat} (h : w.heap[r]? = some (.map es ck)) : (getObj r).run P w = .ok (.map es ck) w := by
  simp [getObj, Sem.run, h]
theorem run_getIter {P : Program} {w : World} {r : Nat} {s : ByteArray} {p : Nat} (h : w.heap[r]? = some (.stringIter s p)) : (getObj r).run P w = .ok (.stringIter s p) w := by
  simp [getObj, Sem.run, h]
theorem lkVC_sound {t : TypeId} {x k : Value} {ok : Bool} {K : Value → Prop} {D : Prop} (h : lkVC Γ t x k ok L K D) :
    (∃ v, K v ∧ ∀ w, Inv Γ L w → (Instr.lookup t x k ok).run Γ.P w = .ok v w) ∨ D := by
  unfold lkVC at h
  split at h
  · obtain ⟨kd, z, hm, z0, hz, hk⟩ := h
    obtain ⟨kt, e, hu, hkt, rfl, hs⟩ := mapT_some hm
    refine .inl ⟨_, hk, fun w hi => ?_⟩
    have hf : Instr.findNow kd k [] 0 = some none := rfl
    have := run_findKey hkt hf w
    simp [Instr.lookup, Sem.run_bind, run_underlying hu, run_checkKey hkt hs, this, run_zero hz]
  · rename_i r
    obtain ⟨kd, z, hm, i, es, ck, hL, fr, hf, hk⟩ := h
    obtain ⟨kt, e, hu, hkt, rfl, hs⟩ := mapT_some hm
    cases fr with
    | none =>
      obtain ⟨z0, hz, hk⟩ := hk
      refine .inl ⟨_, hk, fun w hi => ?_⟩
      have h1 := hi.blk _ _ (List.mem_of_getElem? hL)
      have := run_findKey hkt hf w
      simp [Instr.lookup, Sem.run_bind, run_underlying hu, run_checkKey hkt hs, run_getMap h1, this, run_zero hz]
    | some p =>
      obtain ⟨j, v⟩ := p
      refine .inl ⟨_, hk, fun w hi => ?_⟩
      have h1 := hi.blk _ _ (List.mem_of_getElem? hL)
      have := run_findKey hkt hf w
      simp [Instr.lookup, Sem.run_bind, run_underlying hu, run_checkKey hkt hs, run_getMap h1, this]
  · exact .inr h
theorem VQ_sound {o : Oper} {K : Value → Prop} (h : VQ Γ o T L K) : YieldsQ Γ o T L K := by
  unfold VQ at h
  split at h
  · rename_i x hop
    exact .mk _ h fun w hi => by simp [execOp, hop]
  · rename_i x hop
    exact .mk _ h fun w hi => by simp [execOp, hop]
  · rename_i c a b hop
    unfold pickVC at h
    split at h
    · rename_i c' hc
      refine .mk _ h fun w hi => ?_
      simp [execOp, hop, hc, asBool]
    · first | exact h | exact (h : False).elim
  · rename_i t a hop
    unfold ldVC at h
    split at h
    · rename_i ad ha
      obtain ⟨v, hk, hv⟩ := loadVC_sound h
      refine .mk v hk fun w hi => ?_
      simp [execOp, hop, ha, Instr.loadAt, Instr.sureAddr, hv w hi]
    · first | exact h | exact (h : False).elim
  · rename_i x hop
    unfold nilVC at h
    split at h
    · rename_i a ha
      exact .mk _ h fun w hi => by simp [execOp, hop, ha]
    · first | exact h | exact (h : False).elim
  · rename_i op t x y ty hop
    rcases binVC_sound h with ⟨v, hk, hv⟩ | h
    · refine .mk v hk fun w hi => ?_
      have := hv x y w
      rw [Sem.run_bind] at this
      simp only [execOp, hop, Sem.run_bind]
      rw [this]
      rfl
    · first | exact h | exact (h : False).elim
  · rename_i op t x hop
    rcases unVC_sound (P := Γ.P) h with ⟨v, hk, hv⟩ | h
    · exact .mk v hk fun w hi => by simp [execOp, hop, hv]
    · first | exact h | exact (h : False).elim
  · rename_i s d x hop
    rcases convVC_sound h with ⟨v, hk, hv⟩ | h
    · exact .mk v hk fun w hi => by simp [execOp, hop, hv w hi]
    · first | exact h | exact (h : False).elim
  · rename_i fn first cap hop
    exact .mk _ h fun w hi => by simp [execOp, hop, Instr.makeFunc]
  · rename_i t x f hop
    unfold faVC at h
    split at h
    · rename_i a ha
      split at h
      · rename_i l hl
        split at h
        · rename_i off sz ag hf
          obtain ⟨hsz, hk⟩ := h
          obtain ⟨fs, fd, hu, hfd, ho, hs⟩ := lay_at hl hf
          refine .mk _ hk fun w hi => ?_
          simp [execOp, hop, ha, Instr.fieldAt, run_underlying hu, hfd, Instr.sureAddr, fieldPlace, run_sizeOf hs, hsz, ho]
        · first | exact h | exact (h : False).elim
      · first | exact h | exact (h : False).elim
    · first | exact h | exact (h : False).elim
  · rename_i t x f hop
    rcases fieldVC_sound h with ⟨v, hk, hv⟩ | h
    · exact .mk v hk fun w hi => by simp [execOp, hop, hv]
    · first | exact h | exact (h : False).elim
  · rename_i t x i hop
    rcases indexAddrVC_sound h with ⟨v, hk, hv⟩ | h
    · exact .mk v hk fun w hi => by simp [execOp, hop, hv]
    · first | exact h | exact (h : False).elim
  · rename_i t x i hop
    rcases indexVC_sound h with ⟨v, hk, hv⟩ | h
    · exact .mk v hk fun w hi => by simp [execOp, hop, hv]
    · first | exact h | exact (h : False).elim
  · rename_i t x lo hi mx hop
    rcases sliceVC_sound h with ⟨v, hk, hv⟩ | h
    · exact .mk v hk fun w hi => by simp [execOp, hop, hv]
    · first | exact h | exact (h : False).elim
  · rename_i x i hop
    unfold extVC at h
    split at h
    · rename_i vs hx
      obtain ⟨v, hv, hk⟩ := h
      have hv' : vs[i]? = some v := by rw [← Array.getElem?_toList]; exact hv
      refine .mk v hk fun w _ => ?_
      simp [execOp, hop, hx, Instr.extract, hv']
    · first | exact h | exact (h : False).elim
  · rename_i t x k ok hop
    rcases lkVC_sound h with ⟨v, hk, hv⟩ | h
    · exact .mk v hk fun w hi => by simp [execOp, hop, hv w hi]
    · first | exact h | exact (h : False).elim
  · rename_i t parts hop
    rcases buildVC_sound h with ⟨v, hk, hv⟩ | h
    · refine .mk v hk fun w hi => ?_
      have := hv w
      have e : (parts.toList.map fun p => (p.1, ev T p.2)).toArray = parts.map fun p => (p.1, ev T p.2) := by apply Array.ext'; rw [Array.toList_map]
      rw [e] at this
      simp [execOp, hop, this]
    · first | exact h | exact (h : False).elim
  · rename_i c hop
    have hre : ∀ (w : World), (resolve (ev T) c o.type).run Γ.P w = (resolve (ev T) c o.type).run Γ.P w := fun _ => rfl
    split at h
    · rename_i x ty hcal hargs hty
      have ha : c.args = #[x] := by apply Array.ext'; simpa using hargs
      have ht : c.argTypes = #[ty] := by apply Array.ext'; simpa using hty
      unfold lenVC at h
      split at h
      · rename_i b n cp hx
        obtain ⟨he, hk⟩ := h
        obtain ⟨e, hu⟩ := elS_isSome he
        refine .mk _ hk fun w hi => ?_
        simp [execOp, hop, resolve, hcal, ha, ht, invoke, builtin, Builtin.len_, run_underlying hu, hx, goInt]
      · rename_i s hx
        obtain ⟨hu, hk⟩ := h
        refine .mk _ hk fun w hi => ?_
        simp [execOp, hop, resolve, hcal, ha, ht, invoke, builtin, Builtin.len_, run_underlying hu, hx, goInt]
      · first | exact h | exact (h : False).elim
    · rename_i x ty hcal hargs hty
      have ha : c.args = #[x] := by apply Array.ext'; simpa using hargs
      have ht : c.argTypes = #[ty] := by apply Array.ext'; simpa using hty
      unfold capVC at h
      split at h
      · rename_i b n cp hx
        obtain ⟨he, hk⟩ := h
        obtain ⟨e, hu⟩ := elS_isSome he
        refine .mk _ hk fun w hi => ?_
        simp [execOp, hop, resolve, hcal, ha, ht, invoke, builtin, Builtin.cap_, run_underlying hu, hx, goInt]
      · first | exact h | exact (h : False).elim
    · rename_i tys x y hcal hargs
      have ha : c.args = #[x, y] := by apply Array.ext'; simpa using hargs
      unfold minVC at h
      split at h
      · rename_i k a k' b hx hy
        refine .mk _ h fun w hi => ?_
        simp [execOp, hop, resolve, hcal, ha, invoke, builtin, Builtin.min_, Builtin.min2, hx, hy]
      · first | exact h | exact (h : False).elim
    · rename_i tys x y hcal hargs
      have ha : c.args = #[x, y] := by apply Array.ext'; simpa using hargs
      unfold maxVC at h
      split at h
      · rename_i k a k' b hx hy
        refine .mk _ h fun w hi => ?_
        simp [execOp, hop, resolve, hcal, ha, invoke, builtin, Builtin.max_, Builtin.max2, hx, hy]
      · first | exact h | exact (h : False).elim
    · rename_i f hcal
      unfold qcallVC at h
      split at h
      · rename_i k first cap hf
        obtain ⟨hc, v, hs, hk⟩ := h
        refine ⟨v, hk, .inr ⟨by simp [isCallV, hop, hcal], fun w hi => ?_⟩⟩
        unfold callable at hc
        split at hc
        · rename_i fn hfn
          simp only [Bool.and_eq_true, Bool.not_eq_true', Option.isSome_iff_exists] at hc
          obtain ⟨⟨body, hb⟩, hn⟩ := hc
          have hrun : (execOp (ev T) o).run Γ.P w = .ok (.enter k (first ++ c.args.map (ev T) ++ cap)) w := by
            simp [execOp, hop, resolve, hcal, hf, Deferred.ofValue, invoke, callFunc, hfn, (by simpa using hn : ¬ fn.name = "runtime.NumGoroutine"), hb]
          rw [hrun]
          refine ⟨rfl, (hs w hi).mono ?_⟩
          rintro e w' ⟨v', L', he, hi', rfl, rfl⟩
          exact ⟨he, hi'⟩
        · cases hc
      · first | exact h | exact (h : False).elim
    · first | exact h | exact (h : False).elim
  · first | exact h | exact (h : False).elim
end
end Go.SX
set_option linter.unusedVariables false
set_option linter.unusedSimpArgs false
namespace Go.SX
open Go.RowKit

/-- 'append(s, x..)', 'copy(s, x)': what they come to. -/
def YAppend (Γ : Ctx) (ty tx : TypeId) (s x : Value) (L : Hp) (K : Value → Hp → Prop) : Prop :=
  ∀ w, Inv Γ L w → ∃ v w' L', (∀ t, (Builtin.append_ #[ty, tx] t #[s, x]).run Γ.P w = .ok v w') ∧ Inv Γ L' w' ∧ K v L'
def YCopy (Γ : Ctx) (ty tx : TypeId) (s x : Value) (L : Hp) (K : Value → Hp → Prop) : Prop :=
  ∀ w, Inv Γ L w → ∃ v w' L', (∀ t, (Builtin.copy_ #[ty, tx] t #[s, x]).run Γ.P w = .ok v w') ∧ Inv Γ L' w' ∧ K v L'

def oneB (l : List Value) : Bool := l.all Value.oneCell'
def storeVC (Γ : Ctx) (t : TypeId) (a : Addr) (v : Value) (L : Hp) (K : Hp → Prop) : Prop :=
  (szA Γ.P t).map (·.1) = some v.cells.size ∧ oneB v.cells.toList = true ∧ a.spot = none ∧
  ∃ (i : Nat) (cs : List Value) (t' : TypeId) (fr : Nat × Nat), L[i]? = some (some (a.block, .cells cs.toArray t' fr)) ∧ a.off + v.cells.size ≤ cs.length ∧ (a.off + v.cells.size ≤ fr.1 ∨ fr.2 ≤ a.off) ∧
    K (L.set i (some (a.block, .cells (setN cs a.off v.cells.toList).toArray t' fr)))
/-- The parts of a literal in their order, all of them. -/
def inOrd (sz : Nat) : Nat → List (Nat × Value) → Bool
  | _, [] => true
  | k, (i, v) :: rest => i == k && v.cells.size == sz && inOrd sz (k + 1) rest
def catV (parts : List (Nat × Value)) : List Value := parts.flatMap fun p => p.2.cells.toList
def zerosV (z : List Value) (k : Nat) : List Value := (List.replicate k z).flatten
def bytesV (s : ByteArray) : List Value := s.data.toList.map fun b => Value.int .u8 (b.toNat : Int)

def stVC (Γ : Ctx) (t : TypeId) (p v : Value) (L : Hp) (K : Hp → Prop) (D : Prop) : Prop := match p with | .pointer (some a) => storeVC Γ t a v L K | _ => D
def mkVC (Γ : Ctx) (t : TypeId) (l c : Value) (L : Hp) (K : Value → Hp → Prop) (D : Prop) : Prop :=
  match l, c with
  | .int _ n, .int _ m => match elS Γ.P t with
    | some (e, sz, by_) => match zr Γ.P e with
      | some z => (0 ≤ n ∧ n ≤ m ∧ m * by_ ≤ 281474976710656 ∧ m ≤ 9223372036854775807 ∧ z.length = sz) ∧
          ∀ b, K (.slice (some ⟨b, 0, none⟩) n.toNat m.toNat) (some (b, .cells (zerosV z m.toNat).toArray e (0, 0)) :: L)
      | none => D
    | none => D
  | _, _ => D
def cvVC (Γ : Ctx) (s d : TypeId) (v : Value) (L : Hp) (K : Value → Hp → Prop) (D1 D2 : Prop) : Prop :=
  match v with
  | .string str => match Γ.P.underlying s, Γ.P.underlying d with
    | some _, some (.slice e) => Γ.P.underlying e = some (.int .u8) ∧ ∀ b cap, str.size ≤ cap →
        K (.slice (some ⟨b, 0, none⟩) str.size cap) (some (b, .cells (bytesV str ++ List.replicate (cap - str.size) (Value.int .u8 0)).toArray e (cap, cap + 1)) :: L)
    | some _, some .string => K (.string str) L
    | _, _ => D1
  | _ => D2
def callVC (Γ : Ctx) (f : Value) (args : Array Value) (L : Hp) (K : Value → Hp → Prop) (D : Prop) : Prop :=
  match f with
  | .func (.func k) first cap => callable Γ.P k = true ∧ SCall Γ k (first ++ args ++ cap) L K
  | _ => D

def rgVC (Γ : Ctx) (t : TypeId) (x : Value) (L : Hp) (K : Value → Hp → Prop) (D : Prop) : Prop := match x with
  | .string s => Γ.P.underlying t = some .string ∧ ∀ b, K (.pointer (some ⟨b, 0, none⟩)) (some (b, .stringIter s 0) :: L)
  | _ => D
def nxVC (x : Value) (L : Hp) (K : Value → Hp → Prop) (D : Prop) : Prop := match x with
  | .pointer (some ⟨b, 0, _⟩) => ∃ (i : Nat) (s : ByteArray) (pos : Nat), L[i]? = some (some (b, .stringIter s pos)) ∧
      if pos < s.size then K (.tuple #[.bool true, .int .i64 pos, .int .i32 (Utf8.decode s pos).1]) (L.set i (some (b, .stringIter s (pos + (Utf8.decode s pos).2)))) else K (.tuple #[.bool false]) L
  | _ => D
def mapPut (es : List MapEntry) (ck : Nat) (k v : Value) : Option (Nat × Value) → Obj
  | some (j, _) => .map (es.modify j fun e => { e with key := k, val := v }).toArray ck
  | none => .map (es ++ [({ key := k, val := v, born := ck } : MapEntry)]).toArray (ck + 1)
def muVC (Γ : Ctx) (t : TypeId) (m k v : Value) (L : Hp) (K : Hp → Prop) (D : Prop) : Prop := match m with
  | .map (some r) => ∃ kd z, mapT Γ.P t = some (kd, z) ∧ ∃ (i : Nat) (es : List MapEntry) (ck : Nat), L[i]? = some (some (r, .map es.toArray ck)) ∧ ∃ fr, Instr.findNow kd k es 0 = some fr ∧ K (L.set i (some (r, mapPut es ck k v fr)))
  | _ => D

/-- One operation. -/
def VC (Γ : Ctx) (o : Oper) (T : Env) (L : Hp) (K : Value → Hp → Prop) : Prop :=
  match o.op with
  | .alloc t => match zr Γ.P t with
    | some z => ∀ b, K (.pointer (some ⟨b, 0, none⟩)) (some (b, .cells z.toArray t (0, 0)) :: L)
    | none => Yields Γ o T L K
  | .box t x => ∀ b, K (.pointer (some ⟨b, 0, none⟩)) (some (b, .cells (ev T x).cells t (0, 0)) :: L)
  | .store t a x => stVC Γ t (ev T a) (ev T x) L (K undef) False
  | .buildSlice t len parts => match elS Γ.P t with
    | some (e, sz, _) => (inOrd sz 0 (parts.toList.map fun p => (p.1, ev T p.2)) = true ∧ parts.size = len ∧ len * sz ≤ 16777216 ∧ (zr Γ.P e).map List.length = some sz) ∧
        ∀ b, K (.slice (some ⟨b, 0, none⟩) len len) (some (b, .cells (catV (parts.toList.map fun p => (p.1, ev T p.2))).toArray e (0, 0)) :: L)
    | none => Yields Γ o T L K
  | .makeSlice t l c => mkVC Γ t (ev T l) (ev T c) L K False
  | .range t x => rgVC Γ t (ev T x) L K False
  | .next x true => nxVC (ev T x) L K False
  | .makeMap t none => ∀ b, K (.map (some b)) (some (b, .map #[] 0) :: L)
  | .mapUpdate t m k x => muVC Γ t (ev T m) (ev T k) (ev T x) L (K undef) False
  | .insert t m k x => muVC Γ t (ev T m) (ev T k) (ev T x) L (K undef) False
  | .convert s d x => cvVC Γ s d (ev T x) L K False (VQ Γ o T L (fun v => K v L))
  | .call c => match c.callee, c.args.toList, c.argTypes.toList with
    | .builtin .append, [s, x], [ty, tx] => YAppend Γ ty tx (ev T s) (ev T x) L K
    | .builtin .copy, [s, x], [ty, tx] => YCopy Γ ty tx (ev T s) (ev T x) L K
    | .value f, _, _ => callVC Γ (ev T f) (c.args.map (ev T)) L K False
    | _, _, _ => VQ Γ o T L (fun v => K v L)
  | _ => VQ Γ o T L (fun v => K v L)

section
variable {Γ : Ctx} {T : Env} {L : Hp}

theorem Yields.value {o : Oper} {K : Value → Hp → Prop} (h : ∀ w, Inv Γ L w → ∃ v w' L', (execOp (ev T) o).run Γ.P w = .ok (.value v) w' ∧ Inv Γ L' w' ∧ K v L') : Yields Γ o T L K := fun w hi => by
  obtain ⟨v, w', L', hr, hi', hk⟩ := h w hi
  rw [hr]
  exact ⟨L', hi', hk⟩
theorem Yields.skip {o : Oper} {K : Value → Hp → Prop} (h : ∀ w, Inv Γ L w → ∃ w' L', (execOp (ev T) o).run Γ.P w = .ok .skip w' ∧ Inv Γ L' w' ∧ K undef L') : Yields Γ o T L K := fun w hi => by
  obtain ⟨w', L', hr, hi', hk⟩ := h w hi
  rw [hr]
  exact ⟨L', hi', hk⟩

/-- Stores into one block. -/
theorem run_storeCells {P : Program} : ∀ (vs : List Value) (w : World) (b off k : Nat) (cs : List Value) (t : TypeId) (fr : Nat × Nat),
    w.heap[b]? = some (.cells cs.toArray t fr) → off + k + vs.length ≤ cs.length → (off + k + vs.length ≤ fr.1 ∨ fr.2 ≤ off + k) → oneB vs = true →
    ∃ w', (storeCells ⟨b, off, none⟩ vs k).run P w = .ok () w' ∧ w'.heap[b]? = some (.cells (setN cs (off + k) vs).toArray t fr) ∧ (∀ j, j ≠ b → w'.heap[j]? = w.heap[j]?) ∧ w'.heap.size = w.heap.size ∧ w'.os = w.os ∧ w'.tape = w.tape ∧ w'.output = w.output := by
  intro vs
  induction vs with
  | nil => intro w b off k cs t fr hb _ _ _; exact ⟨w, by simp [storeCells], hb, fun _ _ => rfl, rfl, rfl, rfl, rfl⟩
  | cons v vs ih =>
    intro w b off k cs t fr hb hl hf h1
    simp only [List.length_cons] at hl hf
    simp only [oneB, List.all_cons, Bool.and_eq_true] at h1
    have hcell : w.cell? ⟨b, off + k, none⟩ = some (cs[off + k]'(by omega)) := by
      simp [World.cell?, hb, show off + k < cs.length by omega]
    have hfz : w.frozen? ⟨b, off + k, none⟩ = false := by
      simp only [World.frozen?, hb]
      simp only [Bool.and_eq_false_iff, decide_eq_false_iff_not]
      omega
    have hset : (w.setCell ⟨b, off + k, none⟩ v).heap[b]? = some (.cells (cs.set (off + k) v).toArray t fr) := by
      simp [World.setCell, Array.getElem?_modify, hb]
    obtain ⟨w', hr, hb', ho, hs, e1, e2, e3⟩ := ih (w.setCell ⟨b, off + k, none⟩ v) b off (k + 1) (cs.set (off + k) v) t fr hset (by simp; omega) (by omega) h1.2
    refine ⟨w', ?_, by simpa [setN, Nat.add_assoc] using hb', fun j hj => ?_, ?_, e1, e2, e3⟩
    · simp only [storeCells, Sem.run_bind]
      rw [Addr.add_lit, run_store _ _ _ _ _ h1.1]
      simp only [stored, hcell, hfz, Bool.false_eq_true, if_false, Result.andThen_ok]
      exact hr
    · rw [ho j hj]
      exact Below.heap_setCell _ _ _ _ hj
    · rw [hs]
      exact World.size_setCell _ _ _

theorem run_storeVar {P : Program} {t : TypeId} {a : Addr} {v : Value} {w : World} {cs : List Value} {t' : TypeId} {fr : Nat × Nat} (hs : (szA P t).map (·.1) = some v.cells.size) (h1 : oneB v.cells.toList = true) (hsp : a.spot = none)
    (hb : w.heap[a.block]? = some (.cells cs.toArray t' fr)) (hl : a.off + v.cells.size ≤ cs.length) (hf : a.off + v.cells.size ≤ fr.1 ∨ fr.2 ≤ a.off) :
    ∃ w', (storeVar t a v).run P w = .ok () w' ∧ w'.heap[a.block]? = some (.cells (setN cs a.off v.cells.toList).toArray t' fr) ∧ (∀ j, j ≠ a.block → w'.heap[j]? = w.heap[j]?) ∧ w'.heap.size = w.heap.size ∧ w'.os = w.os ∧ w'.tape = w.tape ∧ w'.output = w.output := by
  obtain ⟨⟨n, ag⟩, hsz, hn⟩ := Option.map_eq_some_iff.1 hs
  simp only at hn
  obtain ⟨b, off, sp⟩ := a
  simp only at hsp
  subst hsp
  obtain ⟨w', hr, h2, h3⟩ := run_storeCells (P := P) v.cells.toList w b off 0 cs t' fr hb (by simpa using hl) (by simpa using hf) h1
  refine ⟨w', ?_, by simpa using h2, h3⟩
  unfold storeVar
  simp only [Sem.run_bind, run_sizeOf hsz, Result.andThen_ok]
  rw [if_neg (by simp [hn])]
  simpa using hr

theorem storeVC_sound {t : TypeId} {a : Addr} {v : Value} {K : Hp → Prop} (h : storeVC Γ t a v L K) : ∀ w, Inv Γ L w → ∃ w' L', (storeVar t a v).run Γ.P w = .ok () w' ∧ Inv Γ L' w' ∧ K L' := by
  obtain ⟨hs, h1, hsp, i, cs, t', fr, hi, hl, hf, hk⟩ := h
  intro w hI
  have hb := hI.blk _ _ (List.mem_of_getElem? hi)
  obtain ⟨w', hr, h2, h3, h4, h5, h6, h7⟩ := run_storeVar (P := Γ.P) hs h1 hsp hb hl hf
  exact ⟨w', _, hr, hI.set hi h2 h3 h4 h5 h6 h7, hk⟩

theorem inOrd_fill {sz : Nat} : ∀ (parts : List (Nat × Value)) (k : Nat) (A B : List Value), inOrd sz k parts = true → A.length = k * sz → B.length = parts.length * sz →
    fillL (fun i => some (i * sz, sz)) (A ++ B) parts = some (A ++ catV parts) := by
  have hset : ∀ (vs A B : List Value), vs.length ≤ B.length → setN (A ++ B) A.length vs = A ++ vs ++ B.drop vs.length := by
    intro vs
    induction vs with
    | nil => intro A B _; simp [setN]
    | cons v vs ih =>
      intro A B hl
      cases B with
      | nil => simp at hl
      | cons b B =>
        simp only [setN]
        have e : (A ++ b :: B).set A.length v = (A ++ [v]) ++ B := by simp
        rw [e, show A.length + 1 = (A ++ [v]).length by simp, ih (A ++ [v]) B (by simpa using hl)]
        simp
  intro parts
  induction parts with
  | nil => intro k A B _ _ hB; simp at hB; simp [fillL, catV, hB]
  | cons p rest ih =>
    intro k A B ho hA hB
    obtain ⟨i, v⟩ := p
    simp only [inOrd, Bool.and_eq_true, beq_iff_eq] at ho
    obtain ⟨⟨rfl, hv⟩, ho⟩ := ho
    have hB' : B.length = sz + rest.length * sz := by rw [hB, List.length_cons, Nat.add_mul, Nat.one_mul, Nat.add_comm]
    have hvl : v.cells.toList.length = sz := by simpa using hv
    simp only [fillL]
    rw [if_pos ⟨hv, by simp [hA]; omega⟩]
    have h1 := hset v.cells.toList A B (by omega)
    rw [hA] at h1
    rw [h1]
    have h2 := ih (i + 1) (A ++ v.cells.toList) (B.drop v.cells.toList.length) ho (by rw [List.length_append, hA, hvl, Nat.add_mul, Nat.one_mul]) (by rw [List.length_drop]; omega)
    rw [h2]
    simp [catV]

theorem zerosV_length (z : List Value) (k : Nat) : (zerosV z k).length = k * z.length := by
  induction k with
  | zero => simp [zerosV]
  | succ k ih => simp only [zerosV, List.replicate_succ, List.flatten_cons, List.length_append] at *; rw [ih, Nat.add_mul, Nat.one_mul, Nat.add_comm]
theorem zerosV_at (z : List Value) (k i : Nat) (hi : i < k * z.length) : (zerosV z k)[i]? = z[i % z.length]? := by
  induction k generalizing i with
  | zero => simp at hi
  | succ k ih =>
    simp only [zerosV, List.replicate_succ, List.flatten_cons] at *
    rw [Nat.add_mul, Nat.one_mul] at hi
    have hz : 0 < z.length := by
      rcases Nat.eq_zero_or_pos z.length with h | h
      · rw [h] at hi; simp at hi
      · first | exact h | exact (h : False).elim
    by_cases hlt : i < z.length
    · rw [List.getElem?_append_left hlt, Nat.mod_eq_of_lt hlt]
    · have e : i % z.length = (i - z.length) % z.length := Nat.mod_eq_sub_mod (by omega)
      rw [List.getElem?_append_right (by omega), ih (i - z.length) (by omega), e]
theorem zeros_eq (z : List Value) (n : Nat) (hz : n * z.length = 0 ∨ 0 < z.length) : ((Array.range (n * z.length)).map fun i => z.toArray[i % z.toArray.size]!) = (zerosV z n).toArray := by
  apply Array.ext'
  apply List.ext_getElem?
  intro i
  by_cases hi : i < n * z.length
  · have hlen : 0 < z.length := by
      rcases hz with hz | hz
      · omega
      · exact hz
    have hm : i % z.length < z.length := Nat.mod_lt _ hlen
    simp [hi, zerosV_at z n i hi, hm, List.getElem?_eq_getElem hm]
  · rw [List.getElem?_eq_none (by simp; omega), List.getElem?_eq_none (by simp [zerosV_length]; omega)]

/-- A block that is no row of cells holds another object. -/
theorem Inv.setObj {w : World} (h : Inv Γ L w) {i b : Nat} {o o' : Obj} (hi : L[i]? = some (some (b, o))) :
    Inv Γ (L.set i (some (b, o'))) { w with heap := w.heap.setIfInBounds b o' } := by
  have hb := h.blk _ _ (List.mem_of_getElem? hi)
  have hlt := (Array.getElem?_eq_some_iff.1 hb).1
  refine h.set hi ?_ (fun k hk => ?_) ?_ rfl rfl rfl
  · simp [Array.getElem?_setIfInBounds, hlt]
  · rw [Array.getElem?_setIfInBounds_ne (Ne.symm hk)]
  · simp
theorem run_setMap {P : Program} {w : World} {r : Nat} {es : Array MapEntry} {ck : Nat} {o : Obj} (h : w.heap[r]? = some (.map es ck)) : (setObj r o).run P w = .ok () { w with heap := w.heap.setIfInBounds r o } := by
  simp [setObj, Sem.run, h]
theorem run_setIter {P : Program} {w : World} {r : Nat} {s : ByteArray} {p : Nat} {o : Obj} (h : w.heap[r]? = some (.stringIter s p)) : (setObj r o).run P w = .ok () { w with heap := w.heap.setIfInBounds r o } := by
  simp [setObj, Sem.run, h]
theorem findNow_some {kd : TypeDesc} {k : Value} : ∀ {es : List MapEntry} {i j : Nat} {v : Value}, Instr.findNow kd k es i = some (some (j, v)) → ∃ e, i ≤ j ∧ es[j - i]? = some e ∧ Instr.sameNow kd k e.key = some true
  | [], i, j, v, h => by cases h
  | e :: es, i, j, v, h => by
    unfold Instr.findNow at h
    split at h
    · rename_i hs
      cases h
      exact ⟨e, Nat.le_refl _, by simp, hs⟩
    · obtain ⟨e', h1, h2, h3⟩ := findNow_some h
      refine ⟨e', by omega, ?_, h3⟩
      rw [show j - i = (j - (i + 1)) + 1 by omega, List.getElem?_cons_succ]
      exact h2
    · cases h
theorem sameBits_of {kd : TypeDesc} (hs : (∃ kk, kd = .int kk) ∨ kd = .string) {a b : Value} (h : Instr.sameNow kd a b = some true) : Instr.sameBits 10000 b a = true := by
  rcases hs with ⟨kk, rfl⟩ | rfl
  · cases a <;> cases b <;> simp [Instr.sameNow] at h
    simp [Instr.sameBits, h.1, h.2]
  · cases a <;> cases b <;> simp [Instr.sameNow] at h
    rename_i a b
    have hab : a = b := by
      cases a; cases b
      have h' : ({ data := _ } : ByteArray).data = ({ data := _ } : ByteArray).data := eq_of_beq h
      exact congrArg _ h'
    subst hab
    exact h
theorem muVC_sound {t : TypeId} {m k v : Value} {K : Hp → Prop} (h : muVC Γ t m k v L K False) : ∀ w, Inv Γ L w → ∃ w' L', (Instr.mapUpdate t m k v).run Γ.P w = .ok () w' ∧ Inv Γ L' w' ∧ K L' := by
  unfold muVC at h
  split at h
  · rename_i r
    obtain ⟨kd, z, hm, i, es, ck, hL, fr, hf, hk⟩ := h
    obtain ⟨kt, e, hu, hkt, rfl, hs⟩ := mapT_some hm
    intro w hi
    have h1 := hi.blk _ _ (List.mem_of_getElem? hL)
    have hfk := run_findKey hkt hf w
    refine ⟨_, _, ?_, hi.setObj hL, hk⟩
    cases fr with
    | none => simp [Instr.mapUpdate, Sem.run_bind, run_underlying hu, run_checkKey hkt hs, run_getMap h1, hfk, run_setMap h1, mapPut]
    | some p =>
      obtain ⟨j, v0⟩ := p
      obtain ⟨e', _, h2, h3⟩ := findNow_some hf
      rw [Nat.sub_zero] at h2
      have hsb := sameBits_of hs h3
      simp [Instr.mapUpdate, Sem.run_bind, run_underlying hu, run_checkKey hkt hs, run_getMap h1, hfk, h2, Instr.keyThatStays, hsb, run_setMap h1, mapPut]
  · exact h.elim
theorem VC_sound {o : Oper} {K : Value → Hp → Prop} (h : VC Γ o T L K) : Yields Γ o T L K := by
  unfold VC at h
  split at h
  · rename_i t hop
    split at h
    · rename_i z hz
      refine .value fun w hi => ?_
      obtain ⟨v, hv, hc⟩ := zr_some hz w
      have hc' : v.cells = z.toArray := by rw [← hc]
      exact ⟨_, _, _, by simp [execOp, hop, Instr.alloc, hv, newVar, newRow, hc'], hi.alloc _, h _⟩
    · first | exact h | exact (h : False).elim
  · rename_i t x hop
    refine .value fun w hi => ?_
    exact ⟨_, _, _, by simp [execOp, hop, Instr.box, newVar, newRow], hi.alloc _, h _⟩
  · rename_i t a x hop
    unfold stVC at h
    split at h
    · rename_i ad ha
      refine .skip fun w hi => ?_
      obtain ⟨w', L', hr, hi', hk⟩ := storeVC_sound h w hi
      exact ⟨w', L', by simp [execOp, hop, ha, Instr.storeAt, Instr.sureAddr, hr], hi', hk⟩
    · first | exact h | exact (h : False).elim
  · rename_i t len parts hop
    split at h
    · rename_i e sz by_ hs
      obtain ⟨⟨ho, hn, hlim, hzl⟩, hk⟩ := h
      obtain ⟨hu, i, hi1, hi2, hi3⟩ := elS_some hs
      obtain ⟨z, hz, hzs⟩ := Option.map_eq_some_iff.1 hzl
      refine .value fun w hi => ?_
      obtain ⟨v, hv, hc⟩ := zr_some hz w
      have hc' : v.cells = z.toArray := by rw [← hc]
      have hf := inOrd_fill (parts.toList.map fun p => (p.1, ev T p.2)) 0 [] (zerosV z len) ho (by simp) (by rw [zerosV_length, hzs]; simp [hn])
      have hfill := fillL_sound _ _ _ hf
      rw [List.nil_append, List.nil_append] at hfill
      have hparts : (parts.map fun p => (p.1, ev T p.2)).toList = parts.toList.map fun p => (p.1, ev T p.2) := Array.toList_map
      refine ⟨_, _, _, ?_, hi.alloc _, hk _⟩
      have hlim' : ¬ (len * sz > 2 ^ 24) := by omega
      by_cases h0 : len * sz = 0
      · have hz0 : zerosV z len = [] := List.eq_nil_of_length_eq_zero (by rw [zerosV_length, hzs]; exact h0)
        rw [hz0] at hfill
        simp only [execOp, hop, Instr.buildSlice, Sem.run_bind, run_underlying hu, Result.andThen_ok, sizeOf_info hi1, hi2, if_neg hlim', Sem.run_pure, if_pos h0, hparts]
        have e0 : ((Array.range (len * sz)).map fun x => (#[] : Array Value)[x % (#[] : Array Value).size]!) = #[] := by rw [h0]; simp
        rw [e0, hfill]
        simp [newRow]
      · have hpos : 0 < sz := Nat.pos_of_ne_zero (fun e => h0 (by rw [e]; simp))
        have hze := zeros_eq z len (.inr (by rw [hzs]; exact hpos))
        rw [hzs] at hze
        simp only [execOp, hop, Instr.buildSlice, Sem.run_bind, run_underlying hu, Result.andThen_ok, sizeOf_info hi1, hi2, if_neg hlim', Sem.run_pure, if_neg h0, hparts, hv, hc', hze, hfill]
        simp [newRow]
    · first | exact h | exact (h : False).elim
  · rename_i t l c hop
    unfold mkVC at h
    split at h
    · rename_i k n k' m hl hc
      split at h
      · rename_i e sz by_ hs
        split at h
        · rename_i z hz
          obtain ⟨⟨h0, h1, h2, h3, hzs⟩, hk⟩ := h
          obtain ⟨hu, i, hi1, hi2, hi3⟩ := elS_some hs
          refine .value fun w hi => ?_
          obtain ⟨vz, hvz, hzc⟩ := Option.map_eq_some_iff.1 (show ((Γ.P.info? e).bind (·.zero)).map (fun v => v.cells.toList) = some z from hz)
          obtain ⟨i', hi', hz'⟩ := Option.bind_eq_some_iff.1 hvz
          rw [hi1] at hi'
          cases hi'
          have hmk := run_make (P := Γ.P) w t e i vz hu hi1 hz' k k' n m h0 h1 (by rw [hi3, Int.mul_comm]; exact h2) h3
          refine ⟨_, _, _, by simp only [execOp, hop, hl, hc, Sem.run_bind]; rw [hmk]; rfl, hi.alloc _, ?_⟩
          have hcells : madeCells vz.cells (m.toNat * i.size) = (zerosV z m.toNat).toArray := by
            have e1 : vz.cells = z.toArray := by rw [← hzc]
            have e2 := zeros_eq z m.toNat
            by_cases hz0 : 0 < z.length
            · rw [e1, hi2, ← hzs]
              exact e2 (.inr hz0)
            · have : z.length = 0 := by omega
              rw [e1, hi2, ← hzs]
              exact e2 (.inl (by rw [this]; simp))
          rw [hcells]
          exact hk _
        · first | exact h | exact (h : False).elim
      · first | exact h | exact (h : False).elim
    · first | exact h | exact (h : False).elim
  · rename_i t x hop
    unfold rgVC at h
    split at h
    · rename_i s hx
      obtain ⟨hu, hk⟩ := h
      refine .value fun w hi => ?_
      exact ⟨_, _, _, by simp [execOp, hop, hx, run_range_string w t s hu, World.iter], hi.alloc _, hk _⟩
    · exact (h : False).elim
  · rename_i x hop
    unfold nxVC at h
    split at h
    · rename_i b sp hx
      obtain ⟨i, s, pos, hL, hk⟩ := h
      refine .value fun w hi => ?_
      have h1 := hi.blk _ _ (List.mem_of_getElem? hL)
      by_cases hp : pos < s.size
      · rw [if_pos hp] at hk
        refine ⟨_, _, _, ?_, hi.setObj hL, hk⟩
        simp [execOp, hop, hx, Instr.next, Sem.run_bind, run_getIter h1, hp, run_setIter h1, goInt]
      · rw [if_neg hp] at hk
        refine ⟨_, _, _, ?_, hi, hk⟩
        simp [execOp, hop, hx, Instr.next, Sem.run_bind, run_getIter h1, hp]
    · exact (h : False).elim
  · rename_i t hop
    refine .value fun w hi => ?_
    exact ⟨_, _, _, by simp [execOp, hop, Instr.makeMap], hi.alloc _, h _⟩
  · rename_i t m k x hop
    refine .skip fun w hi => ?_
    obtain ⟨w', L', hr, hi', hk⟩ := muVC_sound h w hi
    exact ⟨w', L', by simp [execOp, hop, hr], hi', hk⟩
  · rename_i t m k x hop
    refine .skip fun w hi => ?_
    obtain ⟨w', L', hr, hi', hk⟩ := muVC_sound h w hi
    exact ⟨w', L', by simp [execOp, hop, hr], hi', hk⟩
  · rename_i s d x hop
    unfold cvVC at h
    split at h
    · rename_i str hx
      split at h
      · rename_i d0 e hs hd
        obtain ⟨he, hk⟩ := h
        refine .value fun w hi => ?_
        have hrun := Lib.run_convert_string_bytes (P := Γ.P) w s d e str hs hd he
        have hcap : str.size ≤ grownCap w str.size 0 e := by unfold grownCap Question.cut; exact Nat.le_add_right _ _
        refine ⟨_, _, _, by simp only [execOp, hop, hx, Sem.run_bind]; rw [hrun]; rfl, ?_, hk w.heap.size (grownCap w str.size 0 e) hcap⟩
        have hb : Below w.heap.size w (Lib.bytesWorld w e str) := ⟨rfl, rfl, rfl, by rw [Lib.bytesWorld_size]; omega, fun i hi => Lib.bytesWorld_at_old w e str i (by omega)⟩
        refine hi.add hb (Nat.le_refl _) ?_
        rw [Lib.bytesWorld_at_new]
        have e1 : Lib.bytesCells w e str = (bytesV str ++ List.replicate (grownCap w str.size 0 e - str.size) (Value.int .u8 0)).toArray := by
          apply Array.ext'
          simp [Lib.bytesCells, bytesV]
        have e2 : (Lib.bytesCells w e str).size = grownCap w str.size 0 e := by
          rw [e1]
          simp [bytesV]
          have : str.data.size = str.size := rfl
          omega
        rw [e2, e1]
      · rename_i d0 hs hd
        refine .value fun w hi => ⟨_, _, _, ?_, hi, h⟩
        simp [execOp, hop, hx, convert, run_underlying hs, run_underlying hd]
      · first | exact h | exact (h : False).elim
    · exact (VQ_sound h).yields
  · rename_i c hop
    split at h
    · rename_i s x ty tx hcal hargs hty
      have ha : c.args = #[s, x] := by apply Array.ext'; simpa using hargs
      have ht : c.argTypes = #[ty, tx] := by apply Array.ext'; simpa using hty
      refine .value fun w hi => ?_
      obtain ⟨v, w', L', hr, hi', hk⟩ := h w hi
      refine ⟨v, w', L', ?_, hi', hk⟩
      simp [execOp, hop, resolve, hcal, ha, ht, invoke, builtin, hr]
    · rename_i s x ty tx hcal hargs hty
      have ha : c.args = #[s, x] := by apply Array.ext'; simpa using hargs
      have ht : c.argTypes = #[ty, tx] := by apply Array.ext'; simpa using hty
      refine .value fun w hi => ?_
      obtain ⟨v, w', L', hr, hi', hk⟩ := h w hi
      refine ⟨v, w', L', ?_, hi', hk⟩
      simp [execOp, hop, resolve, hcal, ha, ht, invoke, builtin, hr]
    · rename_i f hcal
      unfold callVC at h
      split at h
      · rename_i k first cap hf
        obtain ⟨hc, hs⟩ := h
        intro w hi
        unfold callable at hc
        split at hc
        · rename_i fn hfn
          simp only [Bool.and_eq_true, Bool.not_eq_true', Option.isSome_iff_exists] at hc
          obtain ⟨⟨body, hb⟩, hn⟩ := hc
          have hrun : (execOp (ev T) o).run Γ.P w = .ok (.enter k (first ++ c.args.map (ev T) ++ cap)) w := by
            simp [execOp, hop, resolve, hcal, hf, Deferred.ofValue, invoke, callFunc, hfn, (by simpa using hn : ¬ fn.name = "runtime.NumGoroutine"), hb]
          rw [hrun]
          exact hs w hi
        · cases hc
      · first | exact h | exact (h : False).elim
    · exact (VQ_sound h).yields
  · exact (VQ_sound h).yields
end
end Go.SX
set_option linter.unusedVariables false
set_option linter.unusedSimpArgs false
namespace Go.SX
open Go.RowKit

def putVC (n : Nat) (d : Option Tmp) (v : Value) (T : Env) (k : Env → Prop) : Prop :=
  match d with
  | none => k T
  | some d => d < n ∧ k (upd T d v)
def guardVC (ops : Array Oper) (g : Option (Nat × Bool)) (T : Env) (yes no : Env → Prop) : Prop :=
  match g with
  | none => yes T
  | some (j, want) => match (ops.toList[j]?).bind (·.dst) with
    | none => no T
    | some d => match T d with
      | .bool b => if b = want then yes (upd T d (.bool want)) else no (upd T d (.bool (!want)))
      | _ => no T
/-- A region in the order of its text. -/
def VCops (Γ : Ctx) (n : Nat) (ops : Array Oper) : List Oper → (Env → Hp → Prop) → Env → Hp → Prop
  | [], K, T, L => K T L
  | o :: rest, K, T, L => guardVC ops o.guard T
      (fun T => VC Γ o T L (fun v L => putVC n o.dst v T (fun T => VCops Γ n ops rest K T L)))
      (fun T => putVC n o.dst undef T (fun T => VCops Γ n ops rest K T L))
/-- A region of quiet operations. -/
def VQops (Γ : Ctx) (n : Nat) (ops : Array Oper) (L : Hp) : List Oper → (Env → Prop) → Env → Prop
  | [], K, T => K T
  | o :: rest, K, T => guardVC ops o.guard T
      (fun T => VQ Γ o T L (fun v => putVC n o.dst v T (fun T => VQops Γ n ops L rest K T)))
      (fun T => putVC n o.dst undef T (fun T => VQops Γ n ops L rest K T))

theorem iteI {p : Prop} [Decidable p] {Y N : Prop} (h1 : p → Y) (h2 : ¬ p → N) : if p then Y else N := by
  split
  · exact h1 ‹_›
  · exact h2 ‹_›
section
variable {ds : List Deferred} {Γ : Ctx} {n : Nat} {T : Env} {L : Hp} {Q : Exit → Env → Hp → Prop}

theorem upd_eta {T : Env} {d : Nat} {v : Value} (h : T d = v) : upd T d v = T := by
  funext i
  unfold upd
  split
  · rename_i e; rw [e, h]
  · rfl

theorem guardVC_sound {ops : Array Oper} {o : Oper} {yes no : Env → Prop} {a : Act} (hf : Fits ds n T a) (h : guardVC ops o.guard T yes no) :
    (Region.wanted o (yielded ops a.tmps) = true ∧ yes T) ∨ (Region.wanted o (yielded ops a.tmps) = false ∧ no T) := by
  unfold guardVC at h
  unfold Region.wanted
  split at h
  · rename_i hg
    simp only [hg]
    exact .inl ⟨trivial, h⟩
  · rename_i j want hg
    simp only [hg]
    unfold yielded
    rw [← Array.getElem?_toList]
    split at h
    · rename_i hd
      rw [hd]
      exact .inr ⟨rfl, h⟩
    · rename_i d hd
      rw [hd]
      have hT := hf.2.2 d
      rw [Array.getD_eq_getD_getElem?] at hT
      simp only [Option.bind_some]
      split at h
      · rename_i b hb
        rw [hb] at hT
        have hget : a.tmps[d]? = some (.bool b) := by
          cases hx : a.tmps[d]? with
          | none => rw [hx] at hT; simp [undef] at hT
          | some x => rw [hx] at hT; simpa using hT
        rw [hget]
        by_cases hbw : b = want
        · subst hbw
          refine .inl ⟨by simp, ?_⟩
          rw [if_pos rfl] at h
          rwa [upd_eta hb] at h
        · have hbn : b = !want := by cases b <;> cases want <;> simp_all
          refine .inr ⟨by simp [hbw], ?_⟩
          rw [if_neg hbw] at h
          rwa [← hbn, upd_eta hb] at h
      · rename_i hnb
        refine .inr ⟨?_, h⟩
        cases hx : a.tmps[d]? with
        | none => rfl
        | some x =>
          rw [hx] at hT
          simp at hT
          subst hT
          split
          · rename_i b hb
            exact (hnb b (by simpa using hb)).elim
          · rfl

theorem putVC_sound {d : Option Tmp} {v : Value} {k : Env → Prop} {a : Act} (hf : Fits ds n T a) (h : putVC n d v T k) : ∃ T', Fits ds n T' (a.put d v) ∧ k T' := by
  unfold putVC at h
  split at h
  · exact ⟨T, hf, h⟩
  · exact ⟨_, hf.put h.1 v, h.2⟩

theorem VCops_sound {ops : Array Oper} : ∀ (l : List Oper) (K : Env → Hp → Prop) (T : Env) (L : Hp), VCops Γ n ops l K T L → ∀ a w, Fits ds n T a → Inv Γ L w →
    (∀ T L, K T L → Q .normal T L) → wpList Γ.P ops (lift Γ ds n Q) l a w := by
  intro l
  induction l with
  | nil => intro K T L h a w hf hi hk; exact ⟨T, L, hf, hi, hk _ _ h⟩
  | cons o rest ih =>
    intro K T L h a w hf hi hk
    simp only [VCops] at h
    rcases guardVC_sound hf h with ⟨hw, h⟩ | ⟨hw, h⟩
    · have hy := VC_sound h w hi
      rw [← hf.eval] at hy
      simp only [wpList, hw, if_true]
      refine .inl ?_
      unfold Oper.wp
      revert hy
      generalize (execOp a.eval o).run Γ.P w = r
      intro hy
      cases r with
      | halt x w' => exact hy.elim
      | ok nx w' =>
        cases nx <;> first | exact hy.elim | skip
        case value v =>
          obtain ⟨L', hi', hk'⟩ := hy
          obtain ⟨T', hf', hk'⟩ := putVC_sound hf hk'
          exact ih _ _ _ hk' _ _ hf' hi' hk
        case skip =>
          obtain ⟨L', hi', hk'⟩ := hy
          obtain ⟨T', hf', hk'⟩ := putVC_sound hf hk'
          exact ih _ _ _ hk' _ _ hf' hi' hk
        case enter f args =>
          simp only [Oper.upon]
          refine Calls.mono hy ?_
          rintro e w'' ⟨v, L', rfl, hi', hk'⟩
          obtain ⟨T', hf', hk'⟩ := putVC_sound hf hk'
          exact ih _ _ _ hk' _ _ hf' hi' hk
    · simp only [wpList, hw, Bool.false_eq_true, if_false]
      obtain ⟨T', hf', hk'⟩ := putVC_sound hf h
      exact ih _ _ _ hk' _ _ hf' hi hk

theorem VCops_sound2 {ops : Array Oper} {l2 : List Oper} : ∀ (l : List Oper) (K : Env → Hp → Prop) (T : Env) (L : Hp), VCops Γ n ops l K T L → ∀ a w, Fits ds n T a → Inv Γ L w →
    (∀ T L, K T L → ∀ a w, Fits ds n T a → Inv Γ L w → wpList Γ.P ops (lift Γ ds n Q) l2 a w) → wpList Γ.P ops (lift Γ ds n Q) (l ++ l2) a w := by
  intro l
  induction l with
  | nil => intro K T L h a w hf hi hk; exact hk _ _ h _ _ hf hi
  | cons o rest ih =>
    intro K T L h a w hf hi hk
    simp only [VCops] at h
    rcases guardVC_sound hf h with ⟨hw, h⟩ | ⟨hw, h⟩
    · have hy := VC_sound h w hi
      rw [← hf.eval] at hy
      simp only [List.cons_append, wpList, hw, if_true]
      refine .inl ?_
      unfold Oper.wp
      revert hy
      generalize (execOp a.eval o).run Γ.P w = r
      intro hy
      cases r with
      | halt x w' => exact hy.elim
      | ok nx w' =>
        cases nx <;> first | exact hy.elim | skip
        case value v =>
          obtain ⟨L', hi', hk'⟩ := hy
          obtain ⟨T', hf', hk'⟩ := putVC_sound hf hk'
          exact ih _ _ _ hk' _ _ hf' hi' hk
        case skip =>
          obtain ⟨L', hi', hk'⟩ := hy
          obtain ⟨T', hf', hk'⟩ := putVC_sound hf hk'
          exact ih _ _ _ hk' _ _ hf' hi' hk
        case enter f args =>
          simp only [Oper.upon]
          refine Calls.mono hy ?_
          rintro e w'' ⟨v, L', rfl, hi', hk'⟩
          obtain ⟨T', hf', hk'⟩ := putVC_sound hf hk'
          exact ih _ _ _ hk' _ _ hf' hi' hk
    · simp only [List.cons_append, wpList, hw, Bool.false_eq_true, if_false]
      obtain ⟨T', hf', hk'⟩ := putVC_sound hf h
      exact ih _ _ _ hk' _ _ hf' hi hk


/-- The rest of a region. -/
def RX (Γ : Ctx) (n : Nat) (ops : Array Oper) (l : List Oper) (Q : Exit → Env → Hp → Prop) (T : Env) (L : Hp) : Prop :=
  ∀ ds a w, Fits ds n T a → Inv Γ L w → wpList Γ.P ops (lift Γ ds n Q) l a w
theorem SX.region_x {id : Nat} {l : List Oper} (h : RX Γ n l.toArray l Q T L) : SX Γ n (.region id l.toArray false) Q T L := fun ds a w hf hi => wp_region_lit (h ds a w hf hi)
theorem RX.done {ops : Array Oper} {l : List Oper} (h : VCops Γ n ops l (Q .normal) T L) : RX Γ n ops l Q T L := fun ds a w hf hi => VCops_sound l _ _ _ h a w hf hi fun _ _ h => h
theorem RX.live {ops : Array Oper} {l : List Oper} (m : List Nat) (h : ∀ T', (∀ i, i ∈ m → T' i = T i) → RX Γ n ops l Q T' L) : RX Γ n ops l Q T L := h T fun _ _ => rfl
theorem RX.less {ops : Array Oper} {l : List Oper} {L' : Hp} (hl : Less L L') (h : RX Γ n ops l Q T L') : RX Γ n ops l Q T L := fun ds a w hf hi => h ds a w hf (hl _ _ hi)
theorem RX.join {ops : Array Oper} {l : List Oper} (c : Nat) {σ : Type} (I : σ → Env → Hp → Prop) (h : ∀ K : Env → Hp → Prop, (∀ s T' L' L'', Less L'' L' → I s T' L' → K T' L'') → VCops Γ n ops (l.take c) K T L)
    (k : ∀ s T L, I s T L → RX Γ n ops (l.drop c) Q T L) : RX Γ n ops l Q T L := fun ds a w hf hi => by
  have h1 := VCops_sound2 (Q := Q) (l2 := l.drop c) (l.take c) _ T L (h (fun T L => ∃ s L', Less L L' ∧ I s T L') fun s T' L' L'' hl hI => ⟨s, L', hl, hI⟩) a w hf hi
    (fun T L ⟨s, L', hl, hI⟩ a w hf hi => k s T L' hI ds a w hf (hl _ _ hi))
  rwa [List.take_append_drop] at h1
theorem RX.cut_k {ops : Array Oper} {l : List Oper} (c : Nat) (h : ∀ K : Env → Hp → Prop, (∀ T L, RX Γ n ops (l.drop c) Q T L → K T L) → VCops Γ n ops (l.take c) K T L) : RX Γ n ops l Q T L := fun ds a w hf hi => by
  have h1 := VCops_sound2 (Q := Q) (l2 := l.drop c) (l.take c) _ T L (h (fun T L => RX Γ n ops (l.drop c) Q T L) fun _ _ h => h) a w hf hi (fun T L h a w hf hi => h ds a w hf hi)
  rwa [List.take_append_drop] at h1
theorem SX.region {id : Nat} {l : List Oper} (h : VCops Γ n l.toArray l (Q .normal) T L) : SX Γ n (.region id l.toArray false) Q T L :=
  fun ds a w hf hi => wp_region_lit (VCops_sound l _ _ _ h a w hf hi fun _ _ h => h)

theorem VQops_sound {ops : Array Oper} : ∀ (l : List Oper) (K : Env → Prop) (T : Env), VQops Γ n ops L l K T → ∀ a, Fits ds n T a →
    wpQuiet Γ.P ops (Inv Γ L) (fun a => ∃ T, Fits ds n T a ∧ K T) l a := by
  intro l
  induction l with
  | nil => intro K T h a hf; exact ⟨T, hf, h⟩
  | cons o rest ih =>
    intro K T h a hf
    simp only [VQops] at h
    rcases guardVC_sound hf h with ⟨hw, h⟩ | ⟨hw, h⟩
    · obtain ⟨v, hk, hy⟩ := (VQ_sound h).upon
      simp only [wpQuiet, hw, if_true]
      refine ⟨v, fun w hi => ?_, ?_⟩
      · unfold Oper.quietAt
        rw [hf.eval]
        exact hy w hi
      · obtain ⟨T', hf', hk'⟩ := putVC_sound hf hk
        exact ih _ _ hk' _ hf'
    · simp only [wpQuiet, hw, Bool.false_eq_true, if_false]
      obtain ⟨T', hf', hk'⟩ := putVC_sound hf h
      exact ih _ _ hk' _ hf'

theorem VCops.live {ops : Array Oper} {l : List Oper} {K : Env → Hp → Prop} (m : List Nat) (h : ∀ T', (∀ i, i ∈ m → T' i = T i) → VCops Γ n ops l K T' L) : VCops Γ n ops l K T L := h T fun _ _ => rfl
theorem VQops.live {ops : Array Oper} {l : List Oper} {K : Env → Prop} (m : List Nat) (h : ∀ T', (∀ i, i ∈ m → T' i = T i) → VQops Γ n ops L l K T') : VQops Γ n ops L l K T := h T fun _ _ => rfl
theorem VQops_sound2 {ops : Array Oper} {l2 : List Oper} {F : Act → Prop} : ∀ (l : List Oper) (K : Env → Prop) (T : Env), VQops Γ n ops L l K T → ∀ a, Fits ds n T a →
    (∀ T, K T → ∀ a, Fits ds n T a → wpQuiet Γ.P ops (Inv Γ L) F l2 a) → wpQuiet Γ.P ops (Inv Γ L) F (l ++ l2) a := by
  intro l
  induction l with
  | nil => intro K T h a hf hk; exact hk T h a hf
  | cons o rest ih =>
    intro K T h a hf hk
    simp only [VQops] at h
    rcases guardVC_sound hf h with ⟨hw, h⟩ | ⟨hw, h⟩
    · obtain ⟨v, hk', hy⟩ := (VQ_sound h).upon
      simp only [List.cons_append, wpQuiet, hw, if_true]
      refine ⟨v, fun w hi => ?_, ?_⟩
      · unfold Oper.quietAt
        rw [hf.eval]
        exact hy w hi
      · obtain ⟨T', hf', hk''⟩ := putVC_sound hf hk'
        exact ih _ _ hk'' _ hf' hk
    · simp only [List.cons_append, wpQuiet, hw, Bool.false_eq_true, if_false]
      obtain ⟨T', hf', hk'⟩ := putVC_sound hf h
      exact ih _ _ hk' _ hf' hk
theorem wpQuiet_mono' {P : Program} {ops : Array Oper} {C : World → Prop} {Q Q' : Act → Prop} : ∀ {l : List Oper} {a : Act}, wpQuiet P ops C Q l a → (∀ a, Q a → Q' a) → wpQuiet P ops C Q' l a := by
  intro l
  induction l with
  | nil => intro a h hq; exact hq _ h
  | cons o rest ih =>
    intro a h hq
    simp only [wpQuiet] at h ⊢
    split
    · rename_i hw
      rw [if_pos hw] at h
      obtain ⟨v, h1, h2⟩ := h
      exact ⟨v, h1, ih h2 hq⟩
    · rename_i hw
      rw [if_neg hw] at h
      exact ih h hq
/-- A region that draws its order, all of its operations quiet. -/
theorem SX.quiet {id : Nat} {l : List Oper} (hm : Γ.P.follows .mixedOrders = true) (hB : Region.lexB .any l.toArray = true)
    (h : VQops Γ n l.toArray L l (fun T => Q .normal T L) T) : SX Γ n (.region id l.toArray true) Q T L := fun ds a w hf hi => by
  refine wp_region_quiet (C := Inv Γ L) hm hB hi.drewR ?_
  exact wpQuiet_mono' (VQops_sound _ _ _ h a hf) fun a' ⟨T', hf', hk⟩ w' hi' => ⟨T', L, hf', hi', hk⟩
/-- The rest of a region of quiet operations. -/
def QX (Γ : Ctx) (n : Nat) (ops : Array Oper) (l : List Oper) (L : Hp) (K : Env → Prop) (T : Env) : Prop :=
  ∀ ds a, Fits ds n T a → wpQuiet Γ.P ops (Inv Γ L) (fun a => ∃ T, Fits ds n T a ∧ K T) l a
theorem QX.done {ops : Array Oper} {l : List Oper} {K : Env → Prop} (h : VQops Γ n ops L l K T) : QX Γ n ops l L K T := fun ds a hf => VQops_sound l _ _ h a hf
theorem QX.live {ops : Array Oper} {l : List Oper} {K : Env → Prop} (m : List Nat) (h : ∀ T', (∀ i, i ∈ m → T' i = T i) → QX Γ n ops l L K T') : QX Γ n ops l L K T := h T fun _ _ => rfl
theorem QX.join {ops : Array Oper} {l : List Oper} {K : Env → Prop} (c : Nat) {σ : Type} (I : σ → Env → Hp → Prop) (h : ∀ K' : Env → Hp → Prop, (∀ s T' L' L'', L'' = L' → I s T' L' → K' T' L'') → VQops Γ n ops L (l.take c) (fun T => K' T L) T)
    (k : ∀ s T L', L' = L → I s T L' → QX Γ n ops (l.drop c) L K T) : QX Γ n ops l L K T := fun ds a hf => by
  have h1 := VQops_sound2 (l2 := l.drop c) (F := fun a => ∃ T, Fits ds n T a ∧ K T) (l.take c) _ T (h (fun T L0 => ∃ s, I s T L0) fun s T' L' L'' hl hI => ⟨s, hl ▸ hI⟩) a hf
    (fun T ⟨s, hI⟩ a hf => k s T L rfl hI ds a hf)
  rwa [List.take_append_drop] at h1
theorem QX.cut_k {ops : Array Oper} {l : List Oper} {K : Env → Prop} (c : Nat) (h : ∀ K' : Env → Hp → Prop, (∀ T L', QX Γ n ops (l.drop c) L K T → K' T L') → VQops Γ n ops L (l.take c) (fun T => K' T L) T) : QX Γ n ops l L K T := fun ds a hf => by
  have h1 := VQops_sound2 (l2 := l.drop c) (F := fun a => ∃ T, Fits ds n T a ∧ K T) (l.take c) _ T (h (fun T _ => QX Γ n ops (l.drop c) L K T) fun _ _ h => h) a hf (fun T h a hf => h ds a hf)
  rwa [List.take_append_drop] at h1
end
end Go.SX
namespace Go.Proofs.YtcenlgofldnfcaaDoor.T
open Go.SX Go.Proofs
theorem szA_1 : szA Tryd.prog 1 = some (1, false) := by kernel_rfl
theorem zr_1 : zr Tryd.prog 1 = some [.nilFunc] := by kernel_rfl
theorem szA_2 : szA Tryd.prog 2 = some (1, false) := by kernel_rfl
theorem zr_2 : zr Tryd.prog 2 = some [.int .i64 0] := by kernel_rfl
theorem szA_3 : szA Tryd.prog 3 = some (1, false) := by kernel_rfl
theorem zr_3 : zr Tryd.prog 3 = some [.int .i64 0] := by kernel_rfl
theorem szA_4 : szA Tryd.prog 4 = some (1, false) := by kernel_rfl
theorem zr_4 : zr Tryd.prog 4 = some [.bool false] := by kernel_rfl
theorem szA_5 : szA Tryd.prog 5 = some (1, false) := by kernel_rfl
theorem zr_5 : zr Tryd.prog 5 = some [.int .u8 0] := by kernel_rfl
theorem szA_6 : szA Tryd.prog 6 = some (1, false) := by kernel_rfl
theorem zr_6 : zr Tryd.prog 6 = some [.int .u8 0] := by kernel_rfl
theorem szA_7 : szA Tryd.prog 7 = some (4, true) := by kernel_rfl
theorem zr_7 : zr Tryd.prog 7 = some [.int .i64 0, .int .i64 0, .bool false, .int .u8 0] := by kernel_rfl
theorem lay_7 : lay Tryd.prog 7 = some [(0, 1, false), (1, 1, false), (2, 1, false), (3, 1, false)] := by kernel_rfl
theorem elA_7 : elA Tryd.prog 7 = none := by kernel_rfl
theorem szA_8 : szA Tryd.prog 8 = some (4, true) := by kernel_rfl
theorem zr_8 : zr Tryd.prog 8 = some [.int .i64 0, .int .i64 0, .bool false, .int .u8 0] := by kernel_rfl
theorem lay_8 : lay Tryd.prog 8 = some [(0, 1, false), (1, 1, false), (2, 1, false), (3, 1, false)] := by kernel_rfl
theorem elA_8 : elA Tryd.prog 8 = none := by kernel_rfl
theorem szA_9 : szA Tryd.prog 9 = some (1, false) := by kernel_rfl
theorem zr_9 : zr Tryd.prog 9 = some [.string ⟨#[]⟩] := by kernel_rfl
theorem szA_10 : szA Tryd.prog 10 = some (1, false) := by kernel_rfl
theorem zr_10 : zr Tryd.prog 10 = some [.string ⟨#[]⟩] := by kernel_rfl
theorem szA_11 : szA Tryd.prog 11 = some (1, false) := by kernel_rfl
theorem zr_11 : zr Tryd.prog 11 = some [.string ⟨#[]⟩] := by kernel_rfl
theorem szA_12 : szA Tryd.prog 12 = some (1, false) := by kernel_rfl
theorem zr_12 : zr Tryd.prog 12 = some [.int .u64 0] := by kernel_rfl
theorem szA_13 : szA Tryd.prog 13 = some (2, true) := by kernel_rfl
theorem zr_13 : zr Tryd.prog 13 = some [.string ⟨#[]⟩, .int .u64 0] := by kernel_rfl
theorem lay_13 : lay Tryd.prog 13 = some [(0, 1, false), (1, 1, false)] := by kernel_rfl
theorem elA_13 : elA Tryd.prog 13 = none := by kernel_rfl
theorem szA_14 : szA Tryd.prog 14 = some (2, true) := by kernel_rfl
theorem zr_14 : zr Tryd.prog 14 = some [.string ⟨#[]⟩, .int .u64 0] := by kernel_rfl
theorem lay_14 : lay Tryd.prog 14 = some [(0, 1, false), (1, 1, false)] := by kernel_rfl
theorem elA_14 : elA Tryd.prog 14 = none := by kernel_rfl
theorem szA_15 : szA Tryd.prog 15 = some (1, false) := by kernel_rfl
theorem zr_15 : zr Tryd.prog 15 = some [.pointer none] := by kernel_rfl
theorem ptB_15 : ptB Tryd.prog 15 = true := by kernel_rfl
theorem szA_16 : szA Tryd.prog 16 = some (1, false) := by kernel_rfl
theorem zr_16 : zr Tryd.prog 16 = some [.pointer none] := by kernel_rfl
theorem ptB_16 : ptB Tryd.prog 16 = true := by kernel_rfl
theorem szA_17 : szA Tryd.prog 17 = some (1, false) := by kernel_rfl
theorem zr_17 : zr Tryd.prog 17 = some [.pointer none] := by kernel_rfl
theorem ptB_17 : ptB Tryd.prog 17 = true := by kernel_rfl
theorem szA_18 : szA Tryd.prog 18 = some (1, true) := by kernel_rfl
theorem zr_18 : zr Tryd.prog 18 = some [.pointer none] := by kernel_rfl
theorem lay_18 : lay Tryd.prog 18 = some [(0, 1, false)] := by kernel_rfl
theorem elA_18 : elA Tryd.prog 18 = none := by kernel_rfl
theorem szA_19 : szA Tryd.prog 19 = some (1, true) := by kernel_rfl
theorem zr_19 : zr Tryd.prog 19 = some [.pointer none] := by kernel_rfl
theorem lay_19 : lay Tryd.prog 19 = some [(0, 1, false)] := by kernel_rfl
theorem elA_19 : elA Tryd.prog 19 = none := by kernel_rfl
theorem szA_20 : szA Tryd.prog 20 = some (1, false) := by kernel_rfl
theorem zr_20 : zr Tryd.prog 20 = some [.nilIface] := by kernel_rfl
theorem szA_21 : szA Tryd.prog 21 = some (1, false) := by kernel_rfl
theorem zr_21 : zr Tryd.prog 21 = some [.int .i32 0] := by kernel_rfl
theorem szA_22 : szA Tryd.prog 22 = some (1, false) := by kernel_rfl
theorem zr_22 : zr Tryd.prog 22 = some [.nilFunc] := by kernel_rfl
theorem szA_23 : szA Tryd.prog 23 = some (1, false) := by kernel_rfl
theorem zr_23 : zr Tryd.prog 23 = some [.slice none 0 0] := by kernel_rfl
theorem elS_23 : elS Tryd.prog 23 = some (46, 8, 10) := by kernel_rfl
theorem szA_24 : szA Tryd.prog 24 = some (1, false) := by kernel_rfl
theorem zr_24 : zr Tryd.prog 24 = some [.nilFunc] := by kernel_rfl
theorem szA_25 : szA Tryd.prog 25 = some (1, false) := by kernel_rfl
theorem zr_25 : zr Tryd.prog 25 = some [.int .i64 0] := by kernel_rfl
theorem szA_27 : szA Tryd.prog 27 = some (1, false) := by kernel_rfl
theorem zr_27 : zr Tryd.prog 27 = some [.nilFunc] := by kernel_rfl
theorem szA_28 : szA Tryd.prog 28 = some (1, false) := by kernel_rfl
theorem zr_28 : zr Tryd.prog 28 = some [.nilFunc] := by kernel_rfl
theorem szA_29 : szA Tryd.prog 29 = some (1, false) := by kernel_rfl
theorem zr_29 : zr Tryd.prog 29 = some [.nilFunc] := by kernel_rfl
theorem szA_30 : szA Tryd.prog 30 = some (1, false) := by kernel_rfl
theorem zr_30 : zr Tryd.prog 30 = some [.slice none 0 0] := by kernel_rfl
theorem elS_30 : elS Tryd.prog 30 = some (5, 1, 1) := by kernel_rfl
theorem szA_32 : szA Tryd.prog 32 = some (1, false) := by kernel_rfl
theorem zr_32 : zr Tryd.prog 32 = some [.nilFunc] := by kernel_rfl
theorem szA_33 : szA Tryd.prog 33 = some (1, false) := by kernel_rfl
theorem zr_33 : zr Tryd.prog 33 = some [.nilFunc] := by kernel_rfl
theorem szA_35 : szA Tryd.prog 35 = some (1, false) := by kernel_rfl
theorem zr_35 : zr Tryd.prog 35 = some [.nilFunc] := by kernel_rfl
theorem szA_36 : szA Tryd.prog 36 = some (1, false) := by kernel_rfl
theorem zr_36 : zr Tryd.prog 36 = some [.nilFunc] := by kernel_rfl
theorem szA_37 : szA Tryd.prog 37 = some (1, false) := by kernel_rfl
theorem zr_37 : zr Tryd.prog 37 = some [.nilFunc] := by kernel_rfl
theorem szA_38 : szA Tryd.prog 38 = some (1, false) := by kernel_rfl
theorem zr_38 : zr Tryd.prog 38 = some [.nilFunc] := by kernel_rfl
theorem szA_39 : szA Tryd.prog 39 = some (1, false) := by kernel_rfl
theorem zr_39 : zr Tryd.prog 39 = some [.nilFunc] := by kernel_rfl
theorem szA_40 : szA Tryd.prog 40 = some (1, false) := by kernel_rfl
theorem zr_40 : zr Tryd.prog 40 = some [.nilFunc] := by kernel_rfl
theorem szA_41 : szA Tryd.prog 41 = some (1, false) := by kernel_rfl
theorem zr_41 : zr Tryd.prog 41 = some [.nilFunc] := by kernel_rfl
theorem szA_42 : szA Tryd.prog 42 = some (1, false) := by kernel_rfl
theorem zr_42 : zr Tryd.prog 42 = some [.nilFunc] := by kernel_rfl
theorem szA_43 : szA Tryd.prog 43 = some (1, false) := by kernel_rfl
theorem zr_43 : zr Tryd.prog 43 = some [.int .u16 0] := by kernel_rfl
theorem szA_44 : szA Tryd.prog 44 = some (1, false) := by kernel_rfl
theorem zr_44 : zr Tryd.prog 44 = some [.int .u8 0] := by kernel_rfl
theorem szA_45 : szA Tryd.prog 45 = some (8, true) := by kernel_rfl
theorem zr_45 : zr Tryd.prog 45 = some [.int .u8 0, .int .u16 0, .int .u8 0, .bool false, .bool false, .int .u8 0, .bool false, .int .u8 0] := by kernel_rfl
theorem lay_45 : lay Tryd.prog 45 = some [(0, 1, false), (1, 1, false), (2, 1, false), (3, 1, false), (4, 1, false), (5, 1, false), (6, 1, false), (7, 1, false)] := by kernel_rfl
theorem elA_45 : elA Tryd.prog 45 = none := by kernel_rfl
theorem szA_46 : szA Tryd.prog 46 = some (8, true) := by kernel_rfl
theorem zr_46 : zr Tryd.prog 46 = some [.int .u8 0, .int .u16 0, .int .u8 0, .bool false, .bool false, .int .u8 0, .bool false, .int .u8 0] := by kernel_rfl
theorem lay_46 : lay Tryd.prog 46 = some [(0, 1, false), (1, 1, false), (2, 1, false), (3, 1, false), (4, 1, false), (5, 1, false), (6, 1, false), (7, 1, false)] := by kernel_rfl
theorem elA_46 : elA Tryd.prog 46 = none := by kernel_rfl
theorem szA_47 : szA Tryd.prog 47 = some (1, false) := by kernel_rfl
theorem zr_47 : zr Tryd.prog 47 = some [.nilFunc] := by kernel_rfl
theorem szA_48 : szA Tryd.prog 48 = some (1, false) := by kernel_rfl
theorem zr_48 : zr Tryd.prog 48 = some [.pointer none] := by kernel_rfl
theorem ptB_48 : ptB Tryd.prog 48 = true := by kernel_rfl
theorem szA_49 : szA Tryd.prog 49 = some (2, true) := by kernel_rfl
theorem zr_49 : zr Tryd.prog 49 = some [.pointer none, .slice none 0 0] := by kernel_rfl
theorem lay_49 : lay Tryd.prog 49 = some [(0, 1, false), (1, 1, false)] := by kernel_rfl
theorem elA_49 : elA Tryd.prog 49 = none := by kernel_rfl
theorem szA_50 : szA Tryd.prog 50 = some (2, true) := by kernel_rfl
theorem zr_50 : zr Tryd.prog 50 = some [.pointer none, .slice none 0 0] := by kernel_rfl
theorem lay_50 : lay Tryd.prog 50 = some [(0, 1, false), (1, 1, false)] := by kernel_rfl
theorem elA_50 : elA Tryd.prog 50 = none := by kernel_rfl
theorem szA_51 : szA Tryd.prog 51 = some (1, false) := by kernel_rfl
theorem zr_51 : zr Tryd.prog 51 = some [.nilIface] := by kernel_rfl
theorem szA_52 : szA Tryd.prog 52 = some (1, false) := by kernel_rfl
theorem zr_52 : zr Tryd.prog 52 = some [.nilIface] := by kernel_rfl
theorem szA_54 : szA Tryd.prog 54 = some (1, false) := by kernel_rfl
theorem zr_54 : zr Tryd.prog 54 = some [.nilFunc] := by kernel_rfl
theorem szA_55 : szA Tryd.prog 55 = some (1, false) := by kernel_rfl
theorem zr_55 : zr Tryd.prog 55 = some [.nilFunc] := by kernel_rfl
theorem szA_56 : szA Tryd.prog 56 = some (1, false) := by kernel_rfl
theorem zr_56 : zr Tryd.prog 56 = some [.nilFunc] := by kernel_rfl
theorem szA_57 : szA Tryd.prog 57 = some (1, false) := by kernel_rfl
theorem zr_57 : zr Tryd.prog 57 = some [.nilFunc] := by kernel_rfl
theorem szA_58 : szA Tryd.prog 58 = some (1, false) := by kernel_rfl
theorem zr_58 : zr Tryd.prog 58 = some [.int .u64 0] := by kernel_rfl
theorem szA_59 : szA Tryd.prog 59 = some (1, false) := by kernel_rfl
theorem zr_59 : zr Tryd.prog 59 = some [.nilFunc] := by kernel_rfl
theorem szA_60 : szA Tryd.prog 60 = some (1, false) := by kernel_rfl
theorem zr_60 : zr Tryd.prog 60 = some [.nilFunc] := by kernel_rfl
theorem szA_61 : szA Tryd.prog 61 = some (1, false) := by kernel_rfl
theorem zr_61 : zr Tryd.prog 61 = some [.nilFunc] := by kernel_rfl
theorem szA_62 : szA Tryd.prog 62 = some (1, false) := by kernel_rfl
theorem zr_62 : zr Tryd.prog 62 = some [.int .i64 0] := by kernel_rfl
theorem szA_64 : szA Tryd.prog 64 = some (1, false) := by kernel_rfl
theorem zr_64 : zr Tryd.prog 64 = some [.pointer none] := by kernel_rfl
theorem ptB_64 : ptB Tryd.prog 64 = true := by kernel_rfl
theorem szA_65 : szA Tryd.prog 65 = some (3, true) := by kernel_rfl
theorem zr_65 : zr Tryd.prog 65 = some [.slice none 0 0, .int .i64 0, .int .i64 0] := by kernel_rfl
theorem lay_65 : lay Tryd.prog 65 = some [(0, 1, false), (1, 1, false), (2, 1, false)] := by kernel_rfl
theorem elA_65 : elA Tryd.prog 65 = none := by kernel_rfl
theorem szA_66 : szA Tryd.prog 66 = some (3, true) := by kernel_rfl
theorem zr_66 : zr Tryd.prog 66 = some [.slice none 0 0, .int .i64 0, .int .i64 0] := by kernel_rfl
theorem lay_66 : lay Tryd.prog 66 = some [(0, 1, false), (1, 1, false), (2, 1, false)] := by kernel_rfl
theorem elA_66 : elA Tryd.prog 66 = none := by kernel_rfl
theorem szA_67 : szA Tryd.prog 67 = some (1, false) := by kernel_rfl
theorem zr_67 : zr Tryd.prog 67 = some [.nilFunc] := by kernel_rfl
theorem szA_68 : szA Tryd.prog 68 = some (1, false) := by kernel_rfl
theorem zr_68 : zr Tryd.prog 68 = some [.nilFunc] := by kernel_rfl
theorem szA_70 : szA Tryd.prog 70 = some (1, false) := by kernel_rfl
theorem zr_70 : zr Tryd.prog 70 = some [.nilFunc] := by kernel_rfl
theorem szA_72 : szA Tryd.prog 72 = some (1, false) := by kernel_rfl
theorem zr_72 : zr Tryd.prog 72 = some [.nilFunc] := by kernel_rfl
theorem szA_74 : szA Tryd.prog 74 = some (1, false) := by kernel_rfl
theorem zr_74 : zr Tryd.prog 74 = some [.nilFunc] := by kernel_rfl
theorem szA_75 : szA Tryd.prog 75 = some (1, false) := by kernel_rfl
theorem zr_75 : zr Tryd.prog 75 = some [.slice none 0 0] := by kernel_rfl
theorem elS_75 : elS Tryd.prog 75 = some (9, 1, 16) := by kernel_rfl
theorem szA_77 : szA Tryd.prog 77 = some (1, false) := by kernel_rfl
theorem zr_77 : zr Tryd.prog 77 = some [.nilFunc] := by kernel_rfl
theorem szA_78 : szA Tryd.prog 78 = some (1, false) := by kernel_rfl
theorem zr_78 : zr Tryd.prog 78 = some [.nilFunc] := by kernel_rfl
theorem szA_79 : szA Tryd.prog 79 = some (1, false) := by kernel_rfl
theorem zr_79 : zr Tryd.prog 79 = some [.slice none 0 0] := by kernel_rfl
theorem elS_79 : elS Tryd.prog 79 = some (82, 1, 8) := by kernel_rfl
theorem szA_80 : szA Tryd.prog 80 = some (1, false) := by kernel_rfl
theorem zr_80 : zr Tryd.prog 80 = some [.nilFunc] := by kernel_rfl
theorem szA_81 : szA Tryd.prog 81 = some (1, true) := by kernel_rfl
theorem zr_81 : zr Tryd.prog 81 = some [.nilFunc] := by kernel_rfl
theorem lay_81 : lay Tryd.prog 81 = some [(0, 1, false)] := by kernel_rfl
theorem elA_81 : elA Tryd.prog 81 = none := by kernel_rfl
theorem szA_82 : szA Tryd.prog 82 = some (1, true) := by kernel_rfl
theorem zr_82 : zr Tryd.prog 82 = some [.nilFunc] := by kernel_rfl
theorem lay_82 : lay Tryd.prog 82 = some [(0, 1, false)] := by kernel_rfl
theorem elA_82 : elA Tryd.prog 82 = none := by kernel_rfl
theorem szA_83 : szA Tryd.prog 83 = some (1, false) := by kernel_rfl
theorem zr_83 : zr Tryd.prog 83 = some [.nilFunc] := by kernel_rfl
theorem szA_84 : szA Tryd.prog 84 = some (1, false) := by kernel_rfl
theorem zr_84 : zr Tryd.prog 84 = some [.pointer none] := by kernel_rfl
theorem ptB_84 : ptB Tryd.prog 84 = true := by kernel_rfl
theorem szA_85 : szA Tryd.prog 85 = some (1, false) := by kernel_rfl
theorem zr_85 : zr Tryd.prog 85 = some [.nilFunc] := by kernel_rfl
theorem szA_86 : szA Tryd.prog 86 = some (1, false) := by kernel_rfl
theorem zr_86 : zr Tryd.prog 86 = some [.nilFunc] := by kernel_rfl
theorem szA_87 : szA Tryd.prog 87 = some (1, false) := by kernel_rfl
theorem zr_87 : zr Tryd.prog 87 = some [.nilFunc] := by kernel_rfl
theorem szA_88 : szA Tryd.prog 88 = some (1, false) := by kernel_rfl
theorem zr_88 : zr Tryd.prog 88 = some [.nilFunc] := by kernel_rfl
theorem szA_89 : szA Tryd.prog 89 = some (4, true) := by kernel_rfl
theorem zr_89 : zr Tryd.prog 89 = some [.string ⟨#[]⟩, .string ⟨#[]⟩, .string ⟨#[]⟩, .string ⟨#[]⟩] := by kernel_rfl
theorem elA_89 : elA Tryd.prog 89 = some (4, 9, 1, false) := by kernel_rfl
theorem lay_89 : lay Tryd.prog 89 = none := by kernel_rfl
theorem szA_90 : szA Tryd.prog 90 = some (1, false) := by kernel_rfl
theorem zr_90 : zr Tryd.prog 90 = some [.nilFunc] := by kernel_rfl
theorem szA_92 : szA Tryd.prog 92 = some (1, false) := by kernel_rfl
theorem zr_92 : zr Tryd.prog 92 = some [.nilFunc] := by kernel_rfl
theorem szA_93 : szA Tryd.prog 93 = some (1, false) := by kernel_rfl
theorem zr_93 : zr Tryd.prog 93 = some [.pointer none] := by kernel_rfl
theorem szA_94 : szA Tryd.prog 94 = some (1, false) := by kernel_rfl
theorem zr_94 : zr Tryd.prog 94 = some [.nilFunc] := by kernel_rfl
theorem szA_95 : szA Tryd.prog 95 = some (1, false) := by kernel_rfl
theorem zr_95 : zr Tryd.prog 95 = some [.nilFunc] := by kernel_rfl
theorem szA_96 : szA Tryd.prog 96 = some (1, false) := by kernel_rfl
theorem zr_96 : zr Tryd.prog 96 = some [.nilFunc] := by kernel_rfl
theorem szA_97 : szA Tryd.prog 97 = some (1, false) := by kernel_rfl
theorem zr_97 : zr Tryd.prog 97 = some [.nilFunc] := by kernel_rfl
theorem szA_98 : szA Tryd.prog 98 = some (1, false) := by kernel_rfl
theorem zr_98 : zr Tryd.prog 98 = some [.nilFunc] := by kernel_rfl
theorem szA_99 : szA Tryd.prog 99 = some (1, false) := by kernel_rfl
theorem zr_99 : zr Tryd.prog 99 = some [.nilFunc] := by kernel_rfl
theorem szA_100 : szA Tryd.prog 100 = some (1, false) := by kernel_rfl
theorem zr_100 : zr Tryd.prog 100 = some [.nilFunc] := by kernel_rfl
theorem szA_101 : szA Tryd.prog 101 = some (1, false) := by kernel_rfl
theorem zr_101 : zr Tryd.prog 101 = some [.nilFunc] := by kernel_rfl
theorem szA_102 : szA Tryd.prog 102 = some (1, false) := by kernel_rfl
theorem zr_102 : zr Tryd.prog 102 = some [.nilFunc] := by kernel_rfl
theorem szA_103 : szA Tryd.prog 103 = some (1, false) := by kernel_rfl
theorem zr_103 : zr Tryd.prog 103 = some [.nilFunc] := by kernel_rfl
theorem szA_104 : szA Tryd.prog 104 = some (1, false) := by kernel_rfl
theorem zr_104 : zr Tryd.prog 104 = some [.int .u32 0] := by kernel_rfl
theorem szA_106 : szA Tryd.prog 106 = some (1, false) := by kernel_rfl
theorem zr_106 : zr Tryd.prog 106 = some [.nilFunc] := by kernel_rfl
theorem szA_108 : szA Tryd.prog 108 = some (1, false) := by kernel_rfl
theorem zr_108 : zr Tryd.prog 108 = some [.nilFunc] := by kernel_rfl
theorem szA_109 : szA Tryd.prog 109 = some (256, true) := by kernel_rfl
theorem elA_109 : elA Tryd.prog 109 = some (256, 5, 1, false) := by kernel_rfl
theorem lay_109 : lay Tryd.prog 109 = none := by kernel_rfl
theorem szA_110 : szA Tryd.prog 110 = some (2, true) := by kernel_rfl
theorem zr_110 : zr Tryd.prog 110 = some [.int .u8 0, .int .u8 0] := by kernel_rfl
theorem lay_110 : lay Tryd.prog 110 = some [(0, 1, false), (1, 1, false)] := by kernel_rfl
theorem elA_110 : elA Tryd.prog 110 = none := by kernel_rfl
theorem szA_111 : szA Tryd.prog 111 = some (2, true) := by kernel_rfl
theorem zr_111 : zr Tryd.prog 111 = some [.int .u8 0, .int .u8 0] := by kernel_rfl
theorem lay_111 : lay Tryd.prog 111 = some [(0, 1, false), (1, 1, false)] := by kernel_rfl
theorem elA_111 : elA Tryd.prog 111 = none := by kernel_rfl
theorem szA_112 : szA Tryd.prog 112 = some (32, true) := by kernel_rfl
theorem zr_112 : zr Tryd.prog 112 = some [.int .u8 0, .int .u8 0, .int .u8 0, .int .u8 0, .int .u8 0, .int .u8 0, .int .u8 0, .int .u8 0, .int .u8 0, .int .u8 0, .int .u8 0, .int .u8 0, .int .u8 0, .int .u8 0, .int .u8 0, .int .u8 0, .int .u8 0, .int .u8 0, .int .u8 0, .int .u8 0, .int .u8 0, .int .u8 0, .int .u8 0, .int .u8 0, .int .u8 0, .int .u8 0, .int .u8 0, .int .u8 0, .int .u8 0, .int .u8 0, .int .u8 0, .int .u8 0] := by kernel_rfl
theorem elA_112 : elA Tryd.prog 112 = some (16, 111, 2, true) := by kernel_rfl
theorem lay_112 : lay Tryd.prog 112 = none := by kernel_rfl
theorem szA_113 : szA Tryd.prog 113 = some (4, true) := by kernel_rfl
theorem zr_113 : zr Tryd.prog 113 = some [.pointer none, .pointer none, .pointer none, .string ⟨#[]⟩] := by kernel_rfl
theorem lay_113 : lay Tryd.prog 113 = some [(0, 1, false), (1, 1, false), (2, 1, false), (3, 1, false)] := by kernel_rfl
theorem elA_113 : elA Tryd.prog 113 = none := by kernel_rfl
theorem szA_114 : szA Tryd.prog 114 = some (4, true) := by kernel_rfl
theorem zr_114 : zr Tryd.prog 114 = some [.pointer none, .pointer none, .pointer none, .string ⟨#[]⟩] := by kernel_rfl
theorem lay_114 : lay Tryd.prog 114 = some [(0, 1, false), (1, 1, false), (2, 1, false), (3, 1, false)] := by kernel_rfl
theorem elA_114 : elA Tryd.prog 114 = none := by kernel_rfl
theorem szA_115 : szA Tryd.prog 115 = some (0, true) := by kernel_rfl
theorem zr_115 : zr Tryd.prog 115 = some [] := by kernel_rfl
theorem elA_115 : elA Tryd.prog 115 = some (0, 16, 1, false) := by kernel_rfl
theorem lay_115 : lay Tryd.prog 115 = none := by kernel_rfl
theorem szA_116 : szA Tryd.prog 116 = some (0, true) := by kernel_rfl
theorem zr_116 : zr Tryd.prog 116 = some [] := by kernel_rfl
theorem lay_116 : lay Tryd.prog 116 = some [(0, 0, true)] := by kernel_rfl
theorem elA_116 : elA Tryd.prog 116 = none := by kernel_rfl
theorem szA_117 : szA Tryd.prog 117 = some (0, true) := by kernel_rfl
theorem zr_117 : zr Tryd.prog 117 = some [] := by kernel_rfl
theorem lay_117 : lay Tryd.prog 117 = some [(0, 0, true)] := by kernel_rfl
theorem elA_117 : elA Tryd.prog 117 = none := by kernel_rfl
theorem szA_118 : szA Tryd.prog 118 = some (1, false) := by kernel_rfl
theorem zr_118 : zr Tryd.prog 118 = some [.int .u8 0] := by kernel_rfl
theorem szA_119 : szA Tryd.prog 119 = some (1, false) := by kernel_rfl
theorem zr_119 : zr Tryd.prog 119 = some [.int .u8 0] := by kernel_rfl
theorem szA_120 : szA Tryd.prog 120 = some (1, false) := by kernel_rfl
theorem zr_120 : zr Tryd.prog 120 = some [.nilFunc] := by kernel_rfl
theorem szA_121 : szA Tryd.prog 121 = some (1, false) := by kernel_rfl
theorem zr_121 : zr Tryd.prog 121 = some [.int .i32 0] := by kernel_rfl
theorem szA_122 : szA Tryd.prog 122 = some (1, false) := by kernel_rfl
theorem zr_122 : zr Tryd.prog 122 = some [.int .i32 0] := by kernel_rfl
theorem szA_123 : szA Tryd.prog 123 = some (11, true) := by kernel_rfl
theorem zr_123 : zr Tryd.prog 123 = some [.int .u64 0, .int .u64 0, .int .u32 0, .int .u8 0, .int .u8 0, .int .u8 0, .int .u8 0, .nilFunc, .pointer none, .int .i32 0, .int .i32 0] := by kernel_rfl
theorem lay_123 : lay Tryd.prog 123 = some [(0, 1, false), (1, 1, false), (2, 1, false), (3, 1, false), (4, 1, false), (5, 1, false), (6, 1, false), (7, 1, false), (8, 1, false), (9, 1, false), (10, 1, false)] := by kernel_rfl
theorem elA_123 : elA Tryd.prog 123 = none := by kernel_rfl
theorem szA_124 : szA Tryd.prog 124 = some (11, true) := by kernel_rfl
theorem zr_124 : zr Tryd.prog 124 = some [.int .u64 0, .int .u64 0, .int .u32 0, .int .u8 0, .int .u8 0, .int .u8 0, .int .u8 0, .nilFunc, .pointer none, .int .i32 0, .int .i32 0] := by kernel_rfl
theorem lay_124 : lay Tryd.prog 124 = some [(0, 1, false), (1, 1, false), (2, 1, false), (3, 1, false), (4, 1, false), (5, 1, false), (6, 1, false), (7, 1, false), (8, 1, false), (9, 1, false), (10, 1, false)] := by kernel_rfl
theorem elA_124 : elA Tryd.prog 124 = none := by kernel_rfl
theorem callable_2 : callable Tryd.prog 2 = true := by kernel_rfl
theorem callable_3 : callable Tryd.prog 3 = true := by kernel_rfl
theorem callable_4 : callable Tryd.prog 4 = true := by kernel_rfl
theorem callable_5 : callable Tryd.prog 5 = true := by kernel_rfl
theorem callable_6 : callable Tryd.prog 6 = true := by kernel_rfl
theorem callable_7 : callable Tryd.prog 7 = true := by kernel_rfl
theorem callable_8 : callable Tryd.prog 8 = true := by kernel_rfl
theorem callable_9 : callable Tryd.prog 9 = true := by kernel_rfl
theorem callable_10 : callable Tryd.prog 10 = true := by kernel_rfl
theorem callable_11 : callable Tryd.prog 11 = true := by kernel_rfl
theorem callable_12 : callable Tryd.prog 12 = true := by kernel_rfl
theorem callable_13 : callable Tryd.prog 13 = true := by kernel_rfl
theorem callable_14 : callable Tryd.prog 14 = true := by kernel_rfl
theorem callable_15 : callable Tryd.prog 15 = true := by kernel_rfl
theorem callable_16 : callable Tryd.prog 16 = true := by kernel_rfl
theorem callable_17 : callable Tryd.prog 17 = true := by kernel_rfl
theorem callable_18 : callable Tryd.prog 18 = true := by kernel_rfl
theorem callable_19 : callable Tryd.prog 19 = true := by kernel_rfl
theorem callable_20 : callable Tryd.prog 20 = true := by kernel_rfl
theorem callable_21 : callable Tryd.prog 21 = true := by kernel_rfl
theorem callable_22 : callable Tryd.prog 22 = true := by kernel_rfl
theorem callable_23 : callable Tryd.prog 23 = true := by kernel_rfl
theorem callable_24 : callable Tryd.prog 24 = true := by kernel_rfl
theorem callable_25 : callable Tryd.prog 25 = true := by kernel_rfl
theorem callable_26 : callable Tryd.prog 26 = true := by kernel_rfl
theorem callable_27 : callable Tryd.prog 27 = true := by kernel_rfl
theorem callable_28 : callable Tryd.prog 28 = true := by kernel_rfl
theorem callable_29 : callable Tryd.prog 29 = true := by kernel_rfl
theorem callable_30 : callable Tryd.prog 30 = true := by kernel_rfl
theorem callable_31 : callable Tryd.prog 31 = true := by kernel_rfl
theorem callable_32 : callable Tryd.prog 32 = true := by kernel_rfl
theorem callable_33 : callable Tryd.prog 33 = true := by kernel_rfl
theorem callable_34 : callable Tryd.prog 34 = true := by kernel_rfl
theorem callable_35 : callable Tryd.prog 35 = true := by kernel_rfl
theorem callable_36 : callable Tryd.prog 36 = true := by kernel_rfl
theorem callable_37 : callable Tryd.prog 37 = true := by kernel_rfl
theorem callable_38 : callable Tryd.prog 38 = true := by kernel_rfl
theorem callable_39 : callable Tryd.prog 39 = true := by kernel_rfl
theorem callable_40 : callable Tryd.prog 40 = true := by kernel_rfl
theorem callable_41 : callable Tryd.prog 41 = true := by kernel_rfl
theorem callable_42 : callable Tryd.prog 42 = true := by kernel_rfl
theorem callable_43 : callable Tryd.prog 43 = true := by kernel_rfl
theorem callable_44 : callable Tryd.prog 44 = true := by kernel_rfl
theorem callable_45 : callable Tryd.prog 45 = true := by kernel_rfl
theorem callable_46 : callable Tryd.prog 46 = true := by kernel_rfl
theorem callable_47 : callable Tryd.prog 47 = true := by kernel_rfl
theorem callable_48 : callable Tryd.prog 48 = true := by kernel_rfl
theorem callable_49 : callable Tryd.prog 49 = true := by kernel_rfl
theorem callable_50 : callable Tryd.prog 50 = true := by kernel_rfl
theorem callable_51 : callable Tryd.prog 51 = true := by kernel_rfl
theorem callable_52 : callable Tryd.prog 52 = true := by kernel_rfl
theorem callable_53 : callable Tryd.prog 53 = true := by kernel_rfl
theorem callable_54 : callable Tryd.prog 54 = true := by kernel_rfl
theorem callable_55 : callable Tryd.prog 55 = true := by kernel_rfl
theorem callable_56 : callable Tryd.prog 56 = true := by kernel_rfl
theorem callable_58 : callable Tryd.prog 58 = true := by kernel_rfl
theorem callable_59 : callable Tryd.prog 59 = true := by kernel_rfl
theorem callable_60 : callable Tryd.prog 60 = true := by kernel_rfl
theorem callable_61 : callable Tryd.prog 61 = true := by kernel_rfl
theorem callable_62 : callable Tryd.prog 62 = true := by kernel_rfl
theorem callable_63 : callable Tryd.prog 63 = true := by kernel_rfl
theorem callable_64 : callable Tryd.prog 64 = true := by kernel_rfl
theorem callable_65 : callable Tryd.prog 65 = true := by kernel_rfl
theorem callable_66 : callable Tryd.prog 66 = true := by kernel_rfl
theorem callable_67 : callable Tryd.prog 67 = true := by kernel_rfl
theorem callable_68 : callable Tryd.prog 68 = true := by kernel_rfl
theorem callable_69 : callable Tryd.prog 69 = true := by kernel_rfl
theorem callable_70 : callable Tryd.prog 70 = true := by kernel_rfl
theorem callable_71 : callable Tryd.prog 71 = true := by kernel_rfl
theorem callable_72 : callable Tryd.prog 72 = true := by kernel_rfl
theorem callable_73 : callable Tryd.prog 73 = true := by kernel_rfl
theorem callable_74 : callable Tryd.prog 74 = true := by kernel_rfl
theorem callable_75 : callable Tryd.prog 75 = true := by kernel_rfl
theorem callable_77 : callable Tryd.prog 77 = true := by kernel_rfl
theorem callable_78 : callable Tryd.prog 78 = true := by kernel_rfl
theorem callable_79 : callable Tryd.prog 79 = true := by kernel_rfl
theorem callable_80 : callable Tryd.prog 80 = true := by kernel_rfl
theorem callable_81 : callable Tryd.prog 81 = true := by kernel_rfl
theorem callable_84 : callable Tryd.prog 84 = true := by kernel_rfl
theorem callable_85 : callable Tryd.prog 85 = true := by kernel_rfl
theorem callable_86 : callable Tryd.prog 86 = true := by kernel_rfl
theorem callable_88 : callable Tryd.prog 88 = true := by kernel_rfl
theorem callable_111 : callable Tryd.prog 111 = true := by kernel_rfl
theorem mixed : Tryd.prog.follows .mixedOrders = true := by kernel_rfl
end Go.Proofs.YtcenlgofldnfcaaDoor.T
set_option linter.unusedVariables false
set_option linter.unusedSimpArgs false
namespace Go.SX
open Go.RowKit

/-! A region that draws its order, some of its operations having effects: the quiet ones are taken first where they may, an operation with an effect when nothing else may come up. -/
inductive Kd where
  | q | c | e | t
  deriving DecidableEq

def Same (ops : Array Oper) (o : Oper) (a a' : Act) : Prop :=
  execOp a'.eval o = execOp a.eval o ∧ Region.wanted o (yielded ops a'.tmps) = Region.wanted o (yielded ops a.tmps)

section
variable {P : Program} {ops : Array Oper} {Q : Exit → Act → World → Prop} {tl : List Nat}

theorem wpOp_putS {j : Nat} {oi oj : Oper} {v : Value} (hj : ops[j]? = some oj) (hap : oi.apart ops oj = true)
    (hsi : ∀ cs b, oi.op ≠ .select cs b) (hsj : ∀ cs b, oj.op ≠ .select cs b)
    (hQ : ∀ c a w, Q (.panic c) (a.put oi.dst v) w → Q (.panic c) a w) {K : Act → World → Prop} {a : Act} {w : World}
    (h : wpOp P ops Q j K (a.put oi.dst v) w) :
    wpOp P ops Q j (fun a' w' => Same ops oi a a' ∧ K (a'.put oi.dst v) w') a w := by
  obtain ⟨h1, h2, h3⟩ := Oper.apart_spec hap
  have keep : ∀ (a : Act) u, Same ops oi a (a.put oj.dst u) := fun a u => ⟨execOp_put oi hsi a oj.dst u h3, wanted_put oi a oj.dst u h3⟩
  have keepD : ∀ (a : Act) d u, Same ops oi a (Act.put { a with defers := d :: a.defers } oj.dst u) := fun a d u => ⟨execOp_put oi hsi _ oj.dst u h3, wanted_put oi _ oj.dst u h3⟩
  unfold wpOp at *
  simp only [hj] at *
  rw [wanted_put oj a oi.dst v h1] at h
  split
  · rename_i hw
    simp only [hw, if_true] at h
    rcases h with h | ⟨hasks, hlets⟩
    case inr => exact .inr ⟨by unfold Oper.asks at *; rw [execOp_put oj hsj a oi.dst v h1] at hasks; exact hasks, hlets⟩
    refine .inl ?_
    unfold Oper.wp at *
    rw [execOp_put oj hsj a oi.dst v h1] at h
    generalize (execOp a.eval oj).run P w = r at *
    cases r with
    | ok n w' =>
      cases n <;> simp only [Oper.upon] at h ⊢
      case value u => exact ⟨keep a u, by rw [← Act.put_comm a v u h2]; exact h⟩
      case skip => exact ⟨keep a _, by rw [← Act.put_comm a v undef h2]; exact h⟩
      case defer d =>
        refine ⟨keepD _ _ _, ?_⟩
        rw [← Act.put_comm _ v undef h2, ← Act.put_defers]
        exact h
      case enter f args =>
        refine Calls.mono h fun e w'' he => ?_
        cases e with
        | returned u => exact ⟨keep a u, by rw [← Act.put_comm a v u h2]; exact he⟩
        | panicked c => exact hQ _ _ _ he
        | outgrown => exact he
      case row row args => exact Rows.mono h fun u w'' he => ⟨keep a u, by rw [← Act.put_comm a v u h2]; exact he⟩
    | halt x w' =>
      cases x <;> simp only [Oper.upon] at h ⊢
      case panic u => exact hQ _ _ _ h
  · rename_i hw
    simp only [hw] at h
    exact ⟨keep a _, by rw [← Act.put_comm a v undef h2]; exact h⟩

def Closed (ops : Array Oper) (listed : Array Bool) : Prop :=
  ∀ j oj, ops[j]? = some oj → listed.getD j false = true → ∀ e ∈ oj.after, Region.binds .any e = true → listed.getD e.on false = true
theorem Closed.zero (m : Nat) : Closed ops (Array.replicate m false) := fun j oj _ hl => by rw [getD_replicate_false] at hl; cases hl
theorem Closed.set {i : Nat} {listed : Array Bool} (h : Closed ops listed) (hi : i ∈ Region.ready .any ops listed) : Closed ops (listed.setIfInBounds i true) := by
  obtain ⟨_, oi, hoi, hall⟩ := mem_ready.1 hi
  intro j oj hj hl e he hb
  by_cases hij : i = j
  · subst hij
    have : oj = oi := Option.some.inj (hj.symm.trans hoi)
    subst this
    exact getD_set_true (hall e he hb)
  · rw [getD_set_ne false hij] at hl
    exact getD_set_true (h j oj hj hl e he hb)

def reach (ops : Array Oper) : Nat → Nat → Nat → Bool
  | 0, _, _ => false
  | f + 1, j, k => match ops[j]? with
    | some o => o.after.any fun e => Region.binds .any e && (e.on == k || reach ops f e.on k)
    | none => false
theorem reach_listed {listed : Array Bool} (hc : Closed ops listed) {k : Nat} : ∀ (f j : Nat) (oj : Oper), ops[j]? = some oj → reach ops f j k = true → (∀ e ∈ oj.after, Region.binds .any e = true → listed.getD e.on false = true) → listed.getD k false = true := by
  intro f
  induction f with
  | zero => intro j oj _ h; simp [reach] at h
  | succ f ih =>
    intro j oj hj h hl
    simp only [reach, hj] at h
    obtain ⟨e, he, hb⟩ := Array.any_eq_true'.1 h
    simp only [Bool.and_eq_true, Bool.or_eq_true, beq_iff_eq] at hb
    have h1 := hl e he hb.1
    rcases hb.2 with h2 | h2
    · rwa [← h2]
    · cases ho : ops[e.on]? with
      | none => cases f <;> simp [reach, ho] at h2
      | some o' => exact ih e.on o' ho h2 (hc _ _ ho h1)

/-- In every world of the class this value. -/
def YV (P : Program) (ops : Array Oper) (C : World → Prop) (o : Oper) (v : Value) (a : Act) : Prop :=
  (Region.wanted o (yielded ops a.tmps) = true ∧ ∀ w, C w → (execOp a.eval o).run P w = .ok (.value v) w) ∨
  (Region.wanted o (yielded ops a.tmps) = false ∧ v = undef)
theorem YV.same {C : World → Prop} {o : Oper} {v : Value} {a a' : Act} (h : YV P ops C o v a) (hs : Same ops o a a') : YV P ops C o v a' := by
  unfold YV at *
  rw [hs.1, hs.2]
  exact h
theorem YV.less {C C' : World → Prop} {o : Oper} {v : Value} {a : Act} (h : YV P ops C o v a) (hc : ∀ w, C' w → C w) : YV P ops C' o v a :=
  h.imp (fun h => ⟨h.1, fun w hw => h.2 w (hc w hw)⟩) id
theorem YV.wpOp {i : Nat} {C : World → Prop} {o : Oper} {v : Value} {a : Act} (hi : ops[i]? = some o) (hy : YV P ops C o v a) {K : Act → World → Prop} {w : World} (hw : C w) (h : K (a.put o.dst v) w) : wpOp P ops Q i K a w := by
  unfold Go.wpOp
  simp only [hi]
  rcases hy with ⟨h1, h2⟩ | ⟨h1, rfl⟩
  · simp only [h1, if_true, Oper.wp, h2 w hw, Oper.upon]; exact .inl h
  · simp only [h1, Bool.false_eq_true, if_false]; exact h

def notCall (ops : Array Oper) (k : Nat) : Bool := match ops[k]? with | some o => !isCallV o | none => false
def tails : List (Nat × Kd) → List Nat
  | [] => []
  | (k, .t) :: r => k :: tails r
  | _ :: r => tails r
def okPlan (ops : Array Oper) (tl : List Nat) : Bool → List (Nat × Kd) → Array Bool → Bool
  | _, [], listed => (Region.ready .any ops listed).isEmpty
  | td, (k, .q) :: r, listed => !td && (Region.ready .any ops listed).contains k && Region.free .any ops listed k && notCall ops k && tl.all (fun t => reach ops ops.size t k) && okPlan ops tl td r (listed.setIfInBounds k true)
  | td, (k, .c) :: r, listed => !td && (Region.ready .any ops listed).contains k && Region.free .any ops listed k && tl.all (fun t => reach ops ops.size t k) && okPlan ops tl td r (listed.setIfInBounds k true)
  | td, (k, .e) :: r, listed => !td && !tl.contains k && decide (Region.ready .any ops listed = [k]) && okPlan ops tl td r (listed.setIfInBounds k true)
  | _, (k, .t) :: r, listed => decide (Region.ready .any ops listed = [k]) && tl.contains k && okPlan ops tl true r (listed.setIfInBounds k true)
def planB (ops : Array Oper) (pl : List (Nat × Kd)) : Bool := Region.noSelect ops && decide (pl.length = ops.size) && okPlan ops (tails pl) false pl (Array.replicate ops.size false)
end

/-- A region in a planned order: G is what of the heap the quiet operations look at. -/
def VCplan (Γ : Ctx) (n : Nat) (ops : Array Oper) (G : Hp → Hp) : List (Nat × Kd) → (Env → Hp → Prop) → Env → Hp → Prop
  | [], K, T, L => K T L
  | (k, d) :: r, K, T, L => match ops.toList[k]? with
    | none => False
    | some o => match d with
      | .q => guardVC ops o.guard T (fun T => VQ Γ o T (G L) (fun v => putVC n o.dst v T (fun T => VCplan Γ n ops G r K T L))) (fun T => putVC n o.dst undef T (fun T => VCplan Γ n ops G r K T L))
      | .c => guardVC ops o.guard T (fun T => ∃ v, (∀ L0, Less L0 (G L) → VC Γ o T L0 (fun u L1 => u = v ∧ L1 = L0)) ∧ putVC n o.dst v T (fun T => VCplan Γ n ops G r K T L)) (fun T => putVC n o.dst undef T (fun T => VCplan Γ n ops G r K T L))
      | .e => guardVC ops o.guard T (fun T => VC Γ o T L (fun v L' => putVC n o.dst v T (fun T => (Less L' (G L') ∧ Less (G L') (G L)) ∧ VCplan Γ n ops G r K T L'))) (fun T => putVC n o.dst undef T (fun T => VCplan Γ n ops G r K T L))
      | .t => guardVC ops o.guard T (fun T => VC Γ o T L (fun v L' => putVC n o.dst v T (fun T => VCplan Γ n ops G r K T L'))) (fun T => putVC n o.dst undef T (fun T => VCplan Γ n ops G r K T L))

section
variable {ds : List Deferred} {Γ : Ctx} {n : Nat} {T : Env} {L : Hp} {Q : Exit → Env → Hp → Prop}

theorem eff_wpOp {ops : Array Oper} {Q : Exit → Act → World → Prop} {i : Nat} {o : Oper} {a : Act} {w : World} {R : Env → Hp → Prop} {N : Env → Hp → Prop} (hi : ops[i]? = some o) (hf : Fits ds n T a) (hI : Inv Γ L w)
    (h : guardVC ops o.guard T (fun T => VC Γ o T L (fun v L' => putVC n o.dst v T (fun T => R T L'))) (fun T => putVC n o.dst undef T (fun T => N T L))) :
    wpOp Γ.P ops Q i (fun a' w' => ∃ T' L', Fits ds n T' a' ∧ Inv Γ L' w' ∧ (R T' L' ∨ L' = L ∧ N T' L)) a w := by
  unfold wpOp
  simp only [hi]
  rcases guardVC_sound hf h with ⟨hw, h⟩ | ⟨hw, h⟩
  · have hy := VC_sound h w hI
    rw [← hf.eval] at hy
    simp only [hw, if_true]
    refine .inl ?_
    unfold Oper.wp
    revert hy
    generalize (execOp a.eval o).run Γ.P w = r
    intro hy
    cases r with
    | halt x w' => exact hy.elim
    | ok nx w' =>
      cases nx <;> first | exact hy.elim | skip
      case value v =>
        obtain ⟨L', hi', hk'⟩ := hy
        obtain ⟨T', hf', hk'⟩ := putVC_sound hf hk'
        exact ⟨T', L', hf', hi', .inl hk'⟩
      case skip =>
        obtain ⟨L', hi', hk'⟩ := hy
        obtain ⟨T', hf', hk'⟩ := putVC_sound hf hk'
        exact ⟨T', L', hf', hi', .inl hk'⟩
      case enter f args =>
        simp only [Oper.upon]
        refine Calls.mono hy ?_
        rintro e w'' ⟨v, L', rfl, hi', hk'⟩
        obtain ⟨T', hf', hk'⟩ := putVC_sound hf hk'
        exact ⟨T', L', hf', hi', .inl hk'⟩
  · simp only [hw, Bool.false_eq_true, if_false]
    obtain ⟨T', hf', hk'⟩ := putVC_sound hf h
    exact ⟨T', L, hf', hI, .inr ⟨rfl, hk'⟩⟩

def onlyNormal (Q : Act → World → Prop) : Exit → Act → World → Prop
  | .normal, a, w => Q a w
  | _, _, _ => False

/-- Whatever comes up: in every world of the class L; M is what of it the quiet operations and the calls look at. -/
def AnyL (Γ : Ctx) (ops : Array Oper) (Q : Exit → Act → World → Prop) (tl : List Nat) : Nat → Array Bool → Hp → Hp → Act → Prop
  | 0, listed, _, L, a => Region.ready .any ops listed = [] ∧ ∀ w, Inv Γ L w → Q .normal a w
  | f + 1, listed, M, L, a => (Region.ready .any ops listed = [] → ∀ w, Inv Γ L w → Q .normal a w) ∧
    ∀ i ∈ Region.ready .any ops listed, ∀ w, Inv Γ L w → wpOp Γ.P ops Q i (fun a' w' => ∃ M' L' : Hp, Inv Γ L' w' ∧ Less L' M' ∧ (i ∉ tl → Less M' M) ∧ AnyL Γ ops Q tl f (listed.setIfInBounds i true) M' L' a') a w

theorem AnyL.any {ops : Array Oper} {Q : Exit → Act → World → Prop} {tl : List Nat} : ∀ (f : Nat) (listed : Array Bool) (M L : Hp) (a : Act) (w : World), AnyL Γ ops Q tl f listed M L a → Inv Γ L w → wpAny Γ.P .any ops Q f listed a w
  | 0, _, _, _, _, w, h, hi => ⟨h.1, h.2 w hi⟩
  | f + 1, _, _, _, _, w, h, hi => ⟨fun h0 => h.1 h0 w hi, fun i hm => wpOp_mono (fun _ _ ⟨_, _, hi', _, _, h'⟩ => AnyL.any f _ _ _ _ _ h' hi') (h.2 i hm w hi)⟩

/-- An operation that gives this value in whatever world of the class, and keeps every class below it. -/
def StepV (Γ : Ctx) (ops : Array Oper) (Q : Exit → Act → World → Prop) (i : Nat) (o : Oper) (v : Value) (M : Hp) (a : Act) : Prop :=
  ∀ a', Same ops o a a' → ∀ L0 w, Less L0 M → Inv Γ L0 w → ∀ K : Act → World → Prop, (∀ w', Inv Γ L0 w' → K (a'.put o.dst v) w') → wpOp Γ.P ops Q i K a' w
theorem StepV.same {ops : Array Oper} {Q : Exit → Act → World → Prop} {i : Nat} {o : Oper} {v : Value} {M M' : Hp} {a a' : Act} (h : StepV Γ ops Q i o v M a) (hs : Same ops o a a') (hm : Less M' M) : StepV Γ ops Q i o v M' a' :=
  fun a'' hs' L0 w hl hi K hK => h a'' ⟨hs'.1.trans hs.1, hs'.2.trans hs.2⟩ L0 w (hl.trans hm) hi K hK
theorem StepV.of_quiet {ops : Array Oper} {Q : Exit → Act → World → Prop} {i : Nat} {o : Oper} {v : Value} {M : Hp} {a : Act} (ho : ops[i]? = some o) (hy : YV Γ.P ops (Inv Γ M) o v a) : StepV Γ ops Q i o v M a :=
  fun a' hs L0 w hl hi K hK => (hy.same hs).wpOp ho (hl _ _ hi) (hK w hi)

theorem AnyL_first {ops : Array Oper} {Q : Exit → Act → World → Prop} {tl : List Nat} {i : Nat} {oi : Oper} {v : Value} (hi : ops[i]? = some oi) (hsel : ∀ (j : Nat) (o : Oper) cs b, ops[j]? = some o → o.op ≠ .select cs b)
    (hQ : ∀ c a w, ¬ Q (.panic c) a w) (g : Nat) (htl : ∀ t ∈ tl, reach ops g t i = true) :
    ∀ (fuel : Nat) (listed : Array Bool) (M L : Hp) (a : Act), Closed ops listed →
      (∀ j oj, ops[j]? = some oj → j ≠ i → listed.getD j true = false → (∀ e ∈ oj.after, Region.binds .any e = true → e.on ≠ i) → oi.apart ops oj = true) →
      i ∈ Region.ready .any ops listed → StepV Γ ops Q i oi v M a → Less L M →
      AnyL Γ ops Q tl fuel (listed.setIfInBounds i true) M L (a.put oi.dst v) → AnyL Γ ops Q tl (fuel + 1) listed M L a := by
  intro fuel
  induction fuel with
  | zero =>
    intro listed M L a _ _ hr hy hl H
    refine ⟨fun h => (by rw [h] at hr; cases hr), fun j hj w hw => ?_⟩
    by_cases hji : j = i
    · subst hji; exact hy a ⟨rfl, rfl⟩ L w hl hw _ fun w' hw' => ⟨M, L, hw', hl, fun _ => Less.refl _, H⟩
    · have := ready_mono hj hji
      rw [H.1] at this
      cases this
  | succ fuel ih =>
    intro listed M L a hcl hfree hr hy hl H
    refine ⟨fun h => (by rw [h] at hr; cases hr), fun j hj w hw => ?_⟩
    have hun := (mem_ready.1 hr).1
    by_cases hji : j = i
    · subst hji; exact hy a ⟨rfl, rfl⟩ L w hl hw _ fun w' hw' => ⟨M, L, hw', hl, fun _ => Less.refl _, H⟩
    · have h1 := H.2 j (ready_mono hj hji) w hw
      obtain ⟨hjun, oj, hoj, hall⟩ := mem_ready.1 hj
      have hjt : j ∉ tl := fun ht => by
        have := reach_listed hcl g j oj hoj (htl j ht) hall
        rw [getD_both hun] at this
        cases this
      have hnot : ∀ e ∈ oj.after, Region.binds .any e = true → e.on ≠ i := fun e he hb heq => by
        have h1 := hall e he hb
        rw [heq, getD_both hun] at h1
        cases h1
      have h2 := wpOp_putS hoj (hfree j oj hoj hji hjun hnot) (fun cs b => hsel i oi cs b hi) (fun cs b => hsel j oj cs b hoj) (fun c a w h => (hQ c _ w h).elim) h1
      have hfree' : ∀ k ok, ops[k]? = some ok → k ≠ i → (listed.setIfInBounds j true).getD k true = false →
          (∀ e ∈ ok.after, Region.binds .any e = true → e.on ≠ i) → oi.apart ops ok = true := fun k ok hk hki hun hno => by
        refine hfree k ok hk hki ?_ hno
        by_cases hjk : j = k
        · subst hjk; exact hjun
        · rw [getD_set_ne true hjk] at hun; exact hun
      refine wpOp_mono (fun a' w' h3 => ?_) h2
      obtain ⟨hs, M', L', hi', hl', hsub, H'⟩ := h3
      refine ⟨M', L', hi', hl', hsub, ih (listed.setIfInBounds j true) M' L' a' (hcl.set hj) hfree' (ready_mono hr (Ne.symm hji)) (hy.same hs (hsub hjt)) hl' ?_⟩
      rw [Array.setIfInBounds_comm _ _ hji]
      exact H'

theorem Less.nil (L : Hp) : Less L [] := fun _ _ h => Inv.tail (A := L) (by rw [List.append_nil]; exact h)

theorem plan_sound {ops : Array Oper} {tl : List Nat} {G : Hp → Hp} {K : Env → Hp → Prop} (hs : Region.noSelect ops = true) : ∀ (pl : List (Nat × Kd)) (td : Bool) (listed : Array Bool) (M : Hp) (T : Env) (L : Hp) (a : Act),
    okPlan ops tl td pl listed = true → Closed ops listed → VCplan Γ n ops G pl K T L → Fits ds n T a → (td = false → M = G L ∧ Less L (G L)) →
    AnyL Γ ops (onlyNormal fun a w => ∃ T L, Fits ds n T a ∧ Inv Γ L w ∧ K T L) tl pl.length listed M L a := by
  intro pl
  induction pl with
  | nil =>
    intro td listed M T L a hB hcl h hf hC
    exact ⟨by simpa [okPlan] using hB, fun w hi => ⟨T, L, hf, hi, h⟩⟩
  | cons p r ih =>
    intro td listed M T L a hB hcl h hf hC
    obtain ⟨k, d⟩ := p
    simp only [VCplan] at h
    rw [Array.getElem?_toList] at h
    cases ho : ops[k]? with
    | none => rw [ho] at h; exact h.elim
    | some o =>
      rw [ho] at h
      cases d with
      | q =>
        simp only [okPlan, Bool.and_eq_true, Bool.not_eq_true'] at hB
        obtain ⟨⟨⟨⟨⟨htd, hr⟩, hfr⟩, hnc⟩, htl⟩, hB⟩ := hB
        obtain ⟨rfl, hl⟩ := hC htd
        have hr' : k ∈ Region.ready .any ops listed := by simpa using hr
        have hnc' : isCallV o = false := by simpa [notCall, ho] using hnc
        have key : ∃ v T', YV Γ.P ops (Inv Γ (G L)) o v a ∧ Fits ds n T' (a.put o.dst v) ∧ VCplan Γ n ops G r K T' L := by
          rcases guardVC_sound hf h with ⟨hwa, h⟩ | ⟨hwa, h⟩
          · obtain ⟨v, hk, hrun | ⟨hc, _⟩⟩ := VQ_sound h
            · obtain ⟨T', hf', hk'⟩ := putVC_sound hf hk
              exact ⟨v, T', .inl ⟨hwa, by rw [hf.eval]; exact hrun⟩, hf', hk'⟩
            · rw [hnc'] at hc; cases hc
          · obtain ⟨T', hf', hk'⟩ := putVC_sound hf h
            exact ⟨undef, T', .inr ⟨hwa, rfl⟩, hf', hk'⟩
        obtain ⟨v, T', hy, hf', hk'⟩ := key
        exact AnyL_first ho (Region.noSelect_spec hs) (fun _ _ _ h => h) ops.size (fun t ht => List.all_eq_true.1 htl t ht) r.length listed _ L a hcl (Region.free_spec ho hfr) hr' (.of_quiet ho hy) hl
          (ih td _ _ T' L _ hB (hcl.set hr') hk' hf' fun _ => ⟨rfl, hl⟩)
      | c =>
        simp only [okPlan, Bool.and_eq_true, Bool.not_eq_true'] at hB
        obtain ⟨⟨⟨⟨htd, hr⟩, hfr⟩, htl⟩, hB⟩ := hB
        obtain ⟨rfl, hl⟩ := hC htd
        have hr' : k ∈ Region.ready .any ops listed := by simpa using hr
        have key : ∃ v T', StepV Γ ops (onlyNormal fun a w => ∃ T L, Fits ds n T a ∧ Inv Γ L w ∧ K T L) k o v (G L) a ∧ Fits ds n T' (a.put o.dst v) ∧ VCplan Γ n ops G r K T' L := by
          rcases guardVC_sound hf h with ⟨hwa, v, h, hk⟩ | ⟨hwa, h⟩
          · obtain ⟨T', hf', hk'⟩ := putVC_sound hf hk
            refine ⟨v, T', fun a' hs L0 w hl0 hi K hK => ?_, hf', hk'⟩
            unfold wpOp
            simp only [ho]
            have hy := VC_sound (h L0 hl0) w hi
            rw [← hf.eval, ← hs.1] at hy
            rw [hs.2, hwa, if_pos rfl]
            refine .inl ?_
            unfold Oper.wp
            revert hy
            generalize (execOp a'.eval o).run Γ.P w = r
            intro hy
            cases r with
            | halt x w' => exact hy.elim
            | ok nx w' =>
              cases nx <;> first | exact hy.elim | skip
              case value u =>
                obtain ⟨L', hi', rfl, rfl⟩ := hy
                exact hK _ hi'
              case skip =>
                obtain ⟨L', hi', hv, rfl⟩ := hy
                have := hK _ hi'
                rw [← hv] at this
                exact this
              case enter f args =>
                simp only [Oper.upon]
                refine Calls.mono hy ?_
                rintro e w'' ⟨u, L', rfl, hi', rfl, rfl⟩
                exact hK _ hi'
          · obtain ⟨T', hf', hk'⟩ := putVC_sound hf h
            refine ⟨undef, T', fun a' hs L0 w hl0 hi K hK => ?_, hf', hk'⟩
            unfold wpOp
            simp only [ho, hs.2, hwa, Bool.false_eq_true, if_false]
            exact hK w hi
        obtain ⟨v, T', hy, hf', hk'⟩ := key
        exact AnyL_first ho (Region.noSelect_spec hs) (fun _ _ _ h => h) ops.size (fun t ht => List.all_eq_true.1 htl t ht) r.length listed _ L a hcl (Region.free_spec ho hfr) hr' hy hl
          (ih td _ _ T' L _ hB (hcl.set hr') hk' hf' fun _ => ⟨rfl, hl⟩)
      | e =>
        simp only [okPlan, Bool.and_eq_true, Bool.not_eq_true', decide_eq_true_eq] at hB
        obtain ⟨⟨⟨htd, hnt⟩, hr⟩, hB⟩ := hB
        obtain ⟨rfl, hl⟩ := hC htd
        have hr' : k ∈ Region.ready .any ops listed := by rw [hr]; simp
        refine ⟨fun h0 => (by rw [h0] at hr; cases hr), fun i hi' w hi => ?_⟩
        rw [hr] at hi'
        have hik : i = k := by simpa using hi'
        subst hik
        refine wpOp_mono ?_ (eff_wpOp ho hf hi (R := fun T L' => (Less L' (G L') ∧ Less (G L') (G L)) ∧ VCplan Γ n ops G r K T L') (N := fun T L => VCplan Γ n ops G r K T L) h)
        rintro a' w' ⟨T', L', hf', hi'', ⟨⟨h1, h2⟩, h3⟩ | ⟨rfl, h3⟩⟩
        · exact ⟨G L', L', hi'', h1, fun _ => h2, ih td _ _ T' L' a' hB (hcl.set hr') h3 hf' fun _ => ⟨rfl, h1⟩⟩
        · exact ⟨G L', L', hi'', hl, fun _ => Less.refl _, ih td _ _ T' L' a' hB (hcl.set hr') h3 hf' fun _ => ⟨rfl, hl⟩⟩
      | t =>
        simp only [okPlan, Bool.and_eq_true, decide_eq_true_eq] at hB
        obtain ⟨⟨hr, hnt⟩, hB⟩ := hB
        have hr' : k ∈ Region.ready .any ops listed := by rw [hr]; simp
        refine ⟨fun h0 => (by rw [h0] at hr; cases hr), fun i hi' w hi => ?_⟩
        rw [hr] at hi'
        have hik : i = k := by simpa using hi'
        subst hik
        have hmem : i ∈ tl := by simpa using hnt
        refine wpOp_mono ?_ (eff_wpOp ho hf hi (R := fun T L' => VCplan Γ n ops G r K T L') (N := fun T L => VCplan Γ n ops G r K T L) h)
        rintro a' w' ⟨T', L', hf', hi'', h3 | ⟨rfl, h3⟩⟩
        · exact ⟨[], L', hi'', Less.nil _, fun hn => absurd hmem hn, ih true _ _ T' L' a' hB (hcl.set hr') h3 hf' fun h => by cases h⟩
        · exact ⟨[], L', hi'', Less.nil _, fun hn => absurd hmem hn, ih true _ _ T' L' a' hB (hcl.set hr') h3 hf' fun h => by cases h⟩

/-- A region that draws its order, walked in a planned one. -/
theorem SX.drawn {id : Nat} {l : List Oper} (pl : List (Nat × Kd)) (G : Hp → Hp) (hm : Γ.P.follows .mixedOrders = true) (hB : planB l.toArray pl = true) (hG : Less L (G L))
    (h : VCplan Γ n l.toArray G pl (Q .normal) T L) : SX Γ n (.region id l.toArray true) Q T L := fun ds a w hf hi => by
  simp only [planB, Bool.and_eq_true, decide_eq_true_eq] at hB
  obtain ⟨⟨hs, hlen⟩, hB⟩ := hB
  have H := plan_sound hs pl false _ (G L) T L a hB (Closed.zero _) h hf fun _ => ⟨rfl, hG⟩
  have H2 := wp_region_any (id := id) hm (hlen ▸ H.any _ _ _ _ _ _ hi.drewR)
  refine Code.wp_mono (fun e a w he => ?_) H2
  cases e <;> first | exact he | exact (he : False).elim
end
end Go.SX
set_option linter.unusedVariables false
set_option linter.unusedSimpArgs false
namespace Go.SX
open Go.RowKit
section
variable {K : Env → Hp → Prop} {Q : Exit → Env → Hp → Prop} {res : Env → Hp → Value → Prop} {R : Value → Hp → Prop} {T : Env} {L : Hp}
theorem less_refl_t (L : Hp) : Less L L = True := eq_true (Less.refl L)
theorem less_drop_t (p : Slot) (L : Hp) : Less (p :: L) L = True := eq_true (Less.drop p L)
theorem andThen_normal : andThen K Q .normal T L = K T L := rfl
theorem andThen_ret : andThen K Q .ret T L = Q .ret T L := rfl
theorem andThen_exit (i : Nat) : andThen K Q (.exit i) T L = Q (.exit i) T L := rfl
theorem inBlk_normal (i : Nat) : inBlk i Q .normal T L = Q .normal T L := rfl
theorem inBlk_ret (i : Nat) : inBlk i Q .ret T L = Q .ret T L := rfl
theorem inBlk_exit (i j : Nat) : inBlk i Q (.exit j) T L = if j = i then Q .normal T L else Q (.exit j) T L := rfl
theorem retQ_ret : retQ res R .ret T L = ∃ v L', Less L L' ∧ res T L v ∧ R v L' := rfl
end
section
variable {P : Program} {Γ : Ctx} {t : TypeId} {k k' : IntKind} {a b : Int} {K : Value → Prop} {D : Prop} {L : Hp} {ad : Addr} {K2 : Value → Hp → Prop} {K3 : Hp → Prop} {D2 : Prop}
theorem bin_add : binVC P .add t (.int k a) (.int k' b) K D = (k = k' ∧ K (.int k (k.wrap (a + b)))) := rfl
theorem bin_sub : binVC P .sub t (.int k a) (.int k' b) K D = (k = k' ∧ K (.int k (k.wrap (a - b)))) := rfl
theorem bin_mul : binVC P .mul t (.int k a) (.int k' b) K D = (k = k' ∧ K (.int k (k.wrap (a * b)))) := rfl
theorem bin_quo : binVC P .quo t (.int k a) (.int k' b) K D = (k = k' ∧ b ≠ 0 ∧ K (.int k (k.wrap (a.tdiv b)))) := rfl
theorem bin_rem : binVC P .rem t (.int k a) (.int k' b) K D = (k = k' ∧ b ≠ 0 ∧ K (.int k (a.tmod b))) := rfl
theorem bin_and : binVC P .and t (.int k a) (.int k' b) K D = (k = k' ∧ K (.int k (bits .and k a b))) := rfl
theorem bin_or : binVC P .or t (.int k a) (.int k' b) K D = (k = k' ∧ K (.int k (bits .or k a b))) := rfl
theorem bin_xor : binVC P .xor t (.int k a) (.int k' b) K D = (k = k' ∧ K (.int k (bits .xor k a b))) := rfl
theorem bin_andNot : binVC P .andNot t (.int k a) (.int k' b) K D = (k = k' ∧ K (.int k (bits .andNot k a b))) := rfl
theorem bin_shl : binVC P .shl t (.int k a) (.int k' b) K D = (0 ≤ b ∧ K (.int k (k.wrap (a * 2 ^ (min b.toNat k.bits))))) := rfl
theorem bin_shr : binVC P .shr t (.int k a) (.int k' b) K D = (0 ≤ b ∧ K (.int k (a.fdiv (2 ^ (min b.toNat k.bits))))) := rfl
theorem bin_eql : binVC P .eql t (.int k a) (.int k' b) K D = (k = k' ∧ K (.bool (decide (a = b)))) := rfl
theorem bin_eqlpn {p : Option Addr} : binVC P .eql t (.pointer p) (.pointer none) K D = (ptB P t = true ∧ K (.bool p.isNone)) := rfl
theorem bin_neqpn {p : Option Addr} : binVC P .neq t (.pointer p) (.pointer none) K D = (ptB P t = true ∧ K (.bool (!p.isNone))) := rfl
theorem bin_eqlpp {p q : Addr} : binVC P .eql t (.pointer (some p)) (.pointer (some q)) K D = (ptB P t = true ∧ p = q ∧ K (.bool true)) := rfl
theorem bin_neqpp {p q : Addr} : binVC P .neq t (.pointer (some p)) (.pointer (some q)) K D = (ptB P t = true ∧ p = q ∧ K (.bool false)) := rfl
theorem bin_eqlsn {p : Option Addr} {n c : Nat} : binVC P .eql t (.slice p n c) (.slice none 0 0) K D = ((elS P t).isSome = true ∧ K (.bool p.isNone)) := rfl
theorem bin_neqsn {p : Option Addr} {n c : Nat} : binVC P .neq t (.slice p n c) (.slice none 0 0) K D = ((elS P t).isSome = true ∧ K (.bool (!p.isNone))) := rfl
theorem bin_neq : binVC P .neq t (.int k a) (.int k' b) K D = (k = k' ∧ K (.bool (!decide (a = b)))) := rfl
theorem bin_lss : binVC P .lss t (.int k a) (.int k' b) K D = (k = k' ∧ K (.bool (decide (a < b)))) := rfl
theorem bin_leq : binVC P .leq t (.int k a) (.int k' b) K D = (k = k' ∧ K (.bool (decide (a ≤ b)))) := rfl
theorem bin_gtr : binVC P .gtr t (.int k a) (.int k' b) K D = (k = k' ∧ K (.bool (decide (b < a)))) := rfl
theorem bin_geq : binVC P .geq t (.int k a) (.int k' b) K D = (k = k' ∧ K (.bool (decide (b ≤ a)))) := rfl
theorem bin_eqlb (x y : Bool) : binVC P .eql t (.bool x) (.bool y) K D = (P.underlying t = some .bool ∧ K (.bool (x == y))) := rfl
theorem bin_neqb (x y : Bool) : binVC P .neq t (.bool x) (.bool y) K D = (P.underlying t = some .bool ∧ K (.bool (!(x == y)))) := rfl
theorem bin_adds (x y : ByteArray) : binVC P .add t (.string x) (.string y) K D = (x.size + y.size ≤ 9223372036854775807 ∧ K (.string (x ++ y))) := rfl
theorem bin_eqls (x y : ByteArray) : binVC P .eql t (.string x) (.string y) K D = K (.bool (decide (x = y))) := rfl
theorem bin_neqs (x y : ByteArray) : binVC P .neq t (.string x) (.string y) K D = K (.bool (!decide (x = y))) := rfl
theorem un_not (x : Bool) : unVC .not (.bool x) K D = K (.bool (!x)) := rfl
theorem un_neg : unVC .neg (.int k a) K D = K (.int k (k.wrap (0 - a))) := rfl
theorem un_xor : unVC .xor (.int k a) K D = K (.int k (bits .xor k (if k.signed then -1 else k.max) a)) := rfl
theorem pick_bool (c : Bool) (x y : Value) : pickVC (.bool c) x y K D = K (if c then x else y) := rfl
theorem ld_ptr : ldVC Γ t (.pointer (some ad)) L K D = loadVC Γ t L ad K := rfl
theorem nil_ptr : nilVC (.pointer (some ad)) K D = K (.pointer (some ad)) := rfl
theorem min_int : minVC (.int k a) (.int k' b) K D = K (.int k (if b < a then b else a)) := rfl
theorem max_int : maxVC (.int k a) (.int k' b) K D = K (.int k (if b > a then b else a)) := rfl
theorem len_slice (base : Option Addr) (n c : Nat) : lenVC P t (.slice base n c) K D = ((elS P t).isSome = true ∧ K (.int .i64 n)) := rfl
theorem len_str (s : ByteArray) : lenVC P t (.string s) K D = (P.underlying t = some .string ∧ K (.int .i64 s.size)) := rfl
theorem cap_slice (base : Option Addr) (n c : Nat) : capVC P t (.slice base n c) K D = ((elS P t).isSome = true ∧ K (.int .i64 c)) := rfl
theorem conv_slice (s d : TypeId) (len cap : Nat) : convVC Γ s d (.slice (some ad) len cap) L K D = (match Γ.P.underlying s, Γ.P.underlying d with
    | some (.slice e), some .string => Γ.P.underlying e = some (.int .u8) ∧ ∃ l : List UInt8, l.length = len ∧ (∀ j (h : j < l.length), Cell Γ L (ad.add j) (.int .u8 (l[j].toNat : Int))) ∧ K (.string ⟨l.toArray⟩)
    | _, _ => D) := rfl
theorem conv_nil (s d : TypeId) (len cap : Nat) : convVC Γ s d (.slice none len cap) L K D = (match Γ.P.underlying s, Γ.P.underlying d with
    | some (.slice e), some .string => Γ.P.underlying e = some (.int .u8) ∧ K (.string ByteArray.empty)
    | _, _ => D) := rfl
theorem cv_int (s d : TypeId) : cvVC Γ s d (.int k a) L K2 D D2 = D2 := rfl
theorem cv_slice (s d : TypeId) (A : Option Addr) (n c : Nat) : cvVC Γ s d (.slice A n c) L K2 D D2 = D2 := rfl
theorem lk_map (r : Nat) (x : Value) (ok : Bool) : lkVC Γ t (.map (some r)) x ok L K D = ∃ kd z, mapT Γ.P t = some (kd, z) ∧ ∃ (i : Nat) (es : List MapEntry) (ck : Nat), L[i]? = some (some (r, .map es.toArray ck)) ∧ ∃ fr, Instr.findNow kd x es 0 = some fr ∧ fndK z ok fr K := rfl
theorem lk_nil (x : Value) (ok : Bool) : lkVC Γ t (.map none) x ok L K D = ∃ kd z, mapT Γ.P t = some (kd, z) ∧ fndK z ok none K := rfl
theorem fnd_some (z : Option Value) (ok : Bool) (i : Nat) (v : Value) : fndK z ok (some (i, v)) K = K (if ok then .tuple #[v, .bool true] else v) := rfl
theorem fnd_none (z : Value) (ok : Bool) : fndK (some z) ok none K = K (if ok then .tuple #[z, .bool false] else z) := by simp [fndK]
end
theorem env0_zero (v : Value) (l : List Value) : env0 (v :: l) 0 = v := rfl
theorem env0_succ (v : Value) (l : List Value) (i : Nat) : env0 (v :: l) (i + 1) = env0 l i := rfl
theorem env0_nil (i : Nat) : env0 [] i = undef := rfl
theorem cells_int (k : IntKind) (n : Int) : Value.cells (.int k n) = #[.int k n] := rfl
theorem cells_bool (b : Bool) : Value.cells (.bool b) = #[.bool b] := rfl
theorem cells_string (s : ByteArray) : Value.cells (.string s) = #[.string s] := rfl
theorem cells_pointer (a : Option Addr) : Value.cells (.pointer a) = #[.pointer a] := rfl
theorem cells_slice (a : Option Addr) (n c : Nat) : Value.cells (.slice a n c) = #[.slice a n c] := rfl
theorem cells_map (r : Option Nat) : Value.cells (.map r) = #[.map r] := rfl
theorem cells_func (f : Fn) (a c : Array Value) : Value.cells (.func f a c) = #[.func f a c] := rfl
theorem cells_nilFunc : Value.cells .nilFunc = #[.nilFunc] := rfl
theorem cells_nilIface : Value.cells .nilIface = #[.nilIface] := rfl
theorem cells_iface (t : TypeId) (v : Value) : Value.cells (.iface t v) = #[.iface t v] := rfl
theorem cells_agg (cs : Array Value) : Value.cells (.agg cs) = cs := rfl
theorem oneB_nil : oneB [] = true := rfl
theorem oneB_cons (v : Value) (l : List Value) : oneB (v :: l) = (v.oneCell' && oneB l) := rfl
theorem one_int (k : IntKind) (n : Int) : Value.oneCell' (.int k n) = true := rfl
theorem one_bool (b : Bool) : Value.oneCell' (.bool b) = true := rfl
theorem one_string (s : ByteArray) : Value.oneCell' (.string s) = true := rfl
theorem one_pointer (a : Option Addr) : Value.oneCell' (.pointer a) = true := rfl
theorem one_slice (a : Option Addr) (n c : Nat) : Value.oneCell' (.slice a n c) = true := rfl
theorem one_map (r : Option Nat) : Value.oneCell' (.map r) = true := rfl
theorem one_func (f : Fn) (a c : Array Value) : Value.oneCell' (.func f a c) = true := rfl
theorem one_nilFunc : Value.oneCell' .nilFunc = true := rfl
theorem one_nilIface : Value.oneCell' .nilIface = true := rfl
theorem one_iface (t : TypeId) (v : Value) : Value.oneCell' (.iface t v) = true := rfl
theorem add_addS (a : Addr) (m n : Nat) : (a.add m).add n = a.add (m + n) := by
  unfold Addr.add
  by_cases hm : m = 0 <;> by_cases hn : n = 0 <;> simp [hm, hn, Nat.add_assoc]
/-- Arithmetic that does not wrap. -/
theorem w64 {n : Int} (h : -9223372036854775808 ≤ n ∧ n ≤ 9223372036854775807) : IntKind.i64.wrap n = n := by rw [IntKind.wrap_i64]; omega
theorem wu8 {n : Int} (h : 0 ≤ n ∧ n ≤ 255) : IntKind.u8.wrap n = n := by rw [IntKind.wrap_u8]; omega
theorem wu16 {n : Int} (h : 0 ≤ n ∧ n ≤ 65535) : IntKind.u16.wrap n = n := by rw [IntKind.wrap_u16]; omega

/-! ### what is read -/
/-- A slice that reads as xs: R tells what lies at an element's address. -/
def Sl {α : Type} (sz : Nat) (R : (Addr → Value → Prop) → Addr → α → Prop) (C : Addr → Value → Prop) (v : Value) (xs : List α) : Prop :=
  ∃ A cap, v = .slice A xs.length cap ∧ xs.length ≤ cap ∧ ∀ j x, xs[j]? = some x → ∃ a, A = some a ∧ R C (a.add (j * sz)) x
def RInt (k : IntKind) : (Addr → Value → Prop) → Addr → Int → Prop := fun C a x => C a (.int k x)
abbrev SlI (k : IntKind) := Sl 1 (RInt k)
end Go.SX
set_option linter.unusedVariables false
set_option linter.unusedSimpArgs false
namespace Go.SX
open Go.RowKit
section
variable {Γ : Ctx} {n : Nat} {Q : Exit → Env → Hp → Prop} {T : Env} {L : Hp}
/-- What is still wanted of a frame. -/
theorem SX.live {c : Code} (l : List Nat) (h : ∀ T', (∀ i, i ∈ l → T' i = T i) → SX Γ n c Q T' L) : SX Γ n c Q T L := h T fun _ _ => rfl
def condVC (v : Value) (X Y : Prop) : Prop := match v with | .bool b => (b = true → X) ∧ (b = false → Y) | _ => False
theorem SX.cond_k {o : Operand} {x y : Code} (h : ∀ X Y : Prop, (SX Γ n x Q T L → X) → (SX Γ n y Q T L → Y) → condVC (ev T o) X Y) : SX Γ n (.cond o x y) Q T L := by
  have h1 := h _ _ id id
  unfold condVC at h1
  split at h1
  · rename_i b hb
    exact SX.cond hb h1.1 h1.2
  · exact h1.elim
/-- A loop, what it has done so far being told by s. -/
theorem SX.loop_g {c : Code} {σ : Type} (I : σ → Env → Hp → Prop) (μ : σ → Nat) (s₀ : σ) (h₀ : I s₀ T L)
    (round : ∀ s T L, I s T L → SX Γ n c (andThen (fun T' L' => ∃ s', I s' T' L' ∧ μ s' < μ s) Q) T L) : SX Γ n (.loop c) Q T L := fun ds a w hf hi => by
  have key : ∀ m s T L, μ s = m → I s T L → ∀ a w, Fits ds n T a → Inv Γ L w → ∀ b k cs,
      ∃ e a' w', lift Γ ds n Q e a' w' ∧ Arrives Γ.P (lone (b.at a (.code c :: .inLoop c :: k)) cs w) b k cs e a' w' := by
    intro m
    induction m using Nat.strongRecOn with
    | _ m ih =>
      intro s T L hm hI a w hf hi b k cs
      obtain ⟨e, a₁, w₁, ⟨T₁, L₁, hf₁, hi₁, hq⟩, harr⟩ := round s T L hI ds a w hf hi b (.inLoop c :: k) cs
      cases e with
      | normal =>
        obtain ⟨s₁, hI₁, hlt⟩ := hq
        obtain ⟨e₂, a₂, w₂, hq₂, harr₂⟩ := ih (μ s₁) (hm ▸ hlt) s₁ T₁ L₁ rfl hI₁ a₁ w₁ hf₁ hi₁ b k cs
        exact ⟨e₂, a₂, w₂, hq₂, .of_steps (Steps.trans harr (.one step_inLoop)) harr₂⟩
      | _ => exact ⟨_, a₁, w₁, ⟨T₁, L₁, hf₁, hi₁, hq⟩, .pass (x := .inLoop c) rfl (fun _ _ => .inl (by simp)) harr⟩
  intro b k cs
  obtain ⟨e, a', w', hq, harr⟩ := key _ s₀ T L rfl h₀ a w hf hi b k cs
  exact ⟨e, a', w', hq, .of_steps (.one step_loop) harr⟩
theorem SX.less {c : Code} {L' : Hp} (hl : Less L L') (h : SX Γ n c Q T L') : SX Γ n c Q T L := fun ds a w hf hi => h ds a w hf (hl _ _ hi)
theorem SX.loop_k {c : Code} {σ : Type} (I : σ → Env → Hp → Prop) (μ : σ → Nat) (s₀ : σ) (h₀ : I s₀ T L)
    (round : ∀ s T L, I s T L → ∀ K : Env → Hp → Prop, (∀ s' T' L' L'', Less L'' L' → I s' T' L' → μ s' < μ s → K T' L'') → SX Γ n c (andThen K Q) T L) : SX Γ n (.loop c) Q T L :=
  SX.loop_g (fun s T L => ∃ L', Less L L' ∧ I s T L') μ s₀ ⟨L, Less.refl _, h₀⟩ fun s T L ⟨L', hl, hI⟩ => SX.less hl (round s T L' hI _ fun s' T' L1 L2 h0 h1 h2 => ⟨s', ⟨L1, h0, h1⟩, h2⟩)
/-- Where ways meet again. -/
theorem SX.join {x y : Code} {σ : Type} (I : σ → Env → Hp → Prop) (h : ∀ K : Env → Hp → Prop, (∀ s T' L' L'', Less L'' L' → I s T' L' → K T' L'') → SX Γ n x (andThen K Q) T L) (k : ∀ s T L, I s T L → SX Γ n y Q T L) : SX Γ n (.seq x y) Q T L :=
  SX.seq (h _ fun s T' L' L'' hl hI => SX.less hl (k s T' L' hI))
theorem Less.none (L : Hp) : Less L (none :: L) := fun _ _ h => h.none
end
theorem kbits_u8 : IntKind.u8.bits = 8 := rfl
theorem kbits_u16 : IntKind.u16.bits = 16 := rfl
theorem kbits_i64 : IntKind.i64.bits = 64 := rfl
theorem kbits_u64 : IntKind.u64.bits = 64 := rfl
theorem forall_mem_cons' {p : Nat → Prop} (a : Nat) (l : List Nat) : (∀ i, i ∈ a :: l → p i) = (p a ∧ ∀ i, i ∈ l → p i) := by simp
theorem forall_mem_nil' {p : Nat → Prop} : (∀ i, i ∈ ([] : List Nat) → p i) = True := by simp
/-! ### results, in temporaries or in cells -/
def resK (Γ : Ctx) (T : Env) (L : Hp) : List ResultVar → List Value → (List Value → Prop) → Prop
  | [], acc, K => K acc
  | .tmp t :: r, acc, K => resK Γ T L r (acc ++ [T t]) K
  | .cell a t :: r, acc, K => ldVC Γ t (T a) L (fun v => resK Γ T L r (acc ++ [v]) K) False
def oneOr : List Value → Value
  | [x] => x
  | vs => .tuple vs.toArray
def resX (Γ : Ctx) (rs : List ResultVar) : Env → Hp → Value → Prop := fun T L v => resK Γ T L rs [] fun vs => v = oneOr vs
theorem resK_sound {ds : List Deferred} {Γ : Ctx} {n : Nat} {T : Env} {L : Hp} {a : Act} {w : World} (hf : Fits ds n T a) (hi : Inv Γ L w) : ∀ (rs : List ResultVar) (acc : List Value) (K : List Value → Prop), resK Γ T L rs acc K →
    ∃ vs, K (acc ++ vs) ∧ (rs.mapM (m := Sem) fun | .tmp t => pure (a.tmps.getD t undef) | .cell a' t => do loadVar t (← asAddr (a.tmps.getD a' undef))).run Γ.P w = .ok vs w
  | [], acc, K, h => ⟨[], by rw [List.append_nil]; exact h, rfl⟩
  | .tmp t :: r, acc, K, h => by
    obtain ⟨vs, hk, hr⟩ := resK_sound hf hi r _ K h
    refine ⟨T t :: vs, by simpa using hk, ?_⟩
    simp only [List.mapM_cons, Sem.run_bind, Sem.run_pure, Result.andThen_ok, hf.2.2 t]
    rw [hr]
    rfl
  | .cell c t :: r, acc, K, h => by
    simp only [resK, ldVC] at h
    split at h
    · rename_i ad had
      obtain ⟨v, hk0, hl⟩ := loadVC_sound h
      obtain ⟨vs, hk, hr⟩ := resK_sound hf hi r _ K hk0
      refine ⟨v :: vs, by simpa using hk, ?_⟩
      have h1 := hl w hi
      have h2 : (asAddr (.pointer (some ad))).run Γ.P w = .ok ad w := rfl
      simp only [List.mapM_cons, Sem.run_bind, Sem.run_pure, Result.andThen_ok, hf.2.2 c, had, h2, h1]
      rw [hr]
      rfl
    · exact h.elim
theorem resX_ok {ds : List Deferred} {Γ : Ctx} {fn : Func} {n : Nat} {rs : List ResultVar} (h : fn.results = rs.toArray) : ∀ T L v a w, resX Γ rs T L v → Fits ds n T a → Inv Γ L w → (results fn a.tmps).run Γ.P w = .ok v w := by
  intro T L v a w hr hf hi
  obtain ⟨vs, hk, hrun⟩ := resK_sound hf hi rs [] _ hr
  subst hk
  unfold results
  rw [h, Array.mapM_eq_mapM_toList]
  have key : ∀ (m : Sem (List Value)), m.run Γ.P w = .ok vs w → ((do let vs ← List.toArray <$> m; pure (if h : vs.size = 1 then vs[0] else .tuple vs)) : Sem Value).run Γ.P w = .ok (oneOr vs) w := by
    intro m hm
    rw [← bind_pure_comp]
    simp only [Sem.run_bind, hm, Result.andThen_ok, Sem.run_pure]
    match vs with
    | [] => rfl
    | [x] => rfl
    | x :: y :: r => rfl
  refine key _ (Eq.trans ?_ hrun)
  congr 1
theorem iteB {b : Bool} {A B : Prop} (h : b = true → A) (k : b = false → B) : if b = true then A else B := by
  cases b
  · exact k rfl
  · exact h rfl
end Go.SX
set_option linter.unusedVariables false
set_option linter.unusedSimpArgs false
/-! A range over a function: the round's code, and the iterator's code between two rounds, by the walk by lists. -/
namespace Go.SX
open Go.RowKit
section
variable {Γ : Ctx} {n : Nat} {T : Env} {L : Hp}
/-- In a round, or outside one: no fence else. -/
abbrev FR (ro : Option Nat) : Fence := { Fence.wide with round := ro }
theorem callsIn_FR {ro : Option Nat} {m : Nat} {P : Program} {f : FuncId} {args : Array Value} {w : World} {R : Ending → World → Prop} : CallsIn (FR ro) m P f args w R ↔ Calls P f args w R :=
  callsIn_wide (n := m)
def noDefer (o : Oper) : Bool := match o.op with | .defer _ => false | _ => true
theorem VCops_soundIn {ro : Option Nat} {m : Nat} {ops : Array Oper} {Q : Exit → Act → World → Prop} {l2 : List Oper} : ∀ (l : List Oper) (K : Env → Hp → Prop) (T : Env) (L : Hp), VCops Γ n ops l K T L → (l.all noDefer) = true → ∀ a w, Fits [] n T a → Inv Γ L w →
    (∀ T L, K T L → ∀ a w, Fits [] n T a → Inv Γ L w → wpListIn (FR ro) m Γ.P ops Q l2 a w) → wpListIn (FR ro) m Γ.P ops Q (l ++ l2) a w := by
  intro l
  induction l with
  | nil => intro K T L h _ a w hf hi hk; exact hk _ _ h _ _ hf hi
  | cons o rest ih =>
    intro K T L h hd a w hf hi hk
    simp only [List.all_cons, Bool.and_eq_true] at hd
    simp only [VCops] at h
    rw [List.cons_append]
    rcases guardVC_sound hf h with ⟨hw, h⟩ | ⟨hw, h⟩
    · have hy := VC_sound h w hi
      rw [← hf.eval] at hy
      simp only [wpListIn, hw, if_true]
      refine ⟨fun _ _ => trivial, ?_⟩
      have he : o.semAt ro a.eval = execOp a.eval o := Oper.semAt_eq ro a.eval o (fun c hc => by rw [noDefer, hc] at hd; cases hd.1)
      rw [show (FR ro).round = ro from rfl, he]
      revert hy
      generalize (execOp a.eval o).run Γ.P w = r
      intro hy
      cases r with
      | halt x w' => exact hy.elim
      | ok nx w' =>
        cases nx <;> first | exact hy.elim | skip
        case value v =>
          obtain ⟨L', hi', hk'⟩ := hy
          obtain ⟨T', hf', hk'⟩ := putVC_sound hf hk'
          exact ih _ _ _ hk' hd.2 _ _ hf' hi' hk
        case skip =>
          obtain ⟨L', hi', hk'⟩ := hy
          obtain ⟨T', hf', hk'⟩ := putVC_sound hf hk'
          exact ih _ _ _ hk' hd.2 _ _ hf' hi' hk
        case enter f args =>
          refine ⟨fun h => absurd h (by simp [FR, Fence.wide]), callsIn_FR.2 (Calls.mono hy ?_)⟩
          rintro e w'' ⟨v, L', rfl, hi', hk'⟩
          obtain ⟨T', hf', hk'⟩ := putVC_sound hf hk'
          exact ih _ _ _ hk' hd.2 _ _ hf' hi' hk
    · simp only [wpListIn, hw, Bool.false_eq_true, if_false]
      obtain ⟨T', hf', hk'⟩ := putVC_sound hf h
      exact ⟨fun _ _ => trivial, ih _ _ _ hk' hd.2 _ _ hf' hi hk⟩
end

/-! The iterator's code: its own steps turn nothing that lay. -/
/-- The world has gone on by itself: what lay lies as it lay. -/
abbrev Still (P : Program) (w w' : World) : Prop := Inv ⟨P, w, []⟩ [] w'
theorem Still.refl (P : Program) (w : World) : Still P w w := ⟨fun i j b o o' h => by simp at h, fun b o h => by simp at h, fun b o h => by simp at h, rfl, rfl, rfl, Nat.le_refl _, fun _ _ _ => rfl⟩
theorem Still.grown {P : Program} {w w' : World} (h : Still P w w') : w.grownBy w' none := ⟨h.os, h.tape, h.output, h.size, fun k hk _ => h.old k hk (by simp)⟩
theorem Still.block {P : Program} {w w' : World} (h : Still P w w') {k : Nat} (hk : k < w.heap.size) : w'.heap[k]? = w.heap[k]? := h.old k hk (by simp)
/-- The judgement, the world at hand. -/
def GX (P : Program) (n : Nat) (c : Code) (Q : Exit → Env → World → Prop) (T : Env) (w : World) : Prop :=
  ∀ a, Fits [] n T a → c.wp P (fun e a' w' => ∃ T', Fits [] n T' a' ∧ Q e T' w') a w
section
variable {P : Program} {n : Nat} {T : Env} {w : World} {Q : Exit → Env → World → Prop}
theorem GX.still {c : Code} (h : SX ⟨P, w, []⟩ n c (fun e T' _ => ∀ w', Still P w w' → Q e T' w') T []) : GX P n c Q T w := fun a hf =>
  Code.wp_mono (fun e a' w' ⟨T', L', h1, h2, h3⟩ => ⟨T', h1, h3 w' (Inv.tail (A := L') (by rw [List.append_nil]; exact h2))⟩) (h [] a w hf (Still.refl P w))
theorem GX.seq {x y : Code} {K : Env → World → Prop} (h : GX P n x (fun e T' w' => match e with | .normal => K T' w' | e => Q e T' w') T w) (k : ∀ T' w', K T' w' → GX P n y Q T' w') : GX P n (.seq x y) Q T w := fun a hf => by
  refine wp_seq (Code.wp_mono ?_ (h a hf))
  rintro e a' w' ⟨T', h1, h2⟩
  cases e with
  | normal => exact k T' w' h2 a' h1
  | _ => exact ⟨T', h1, h2⟩
theorem GX.block {id : Nat} {c : Code} (h : GX P n c (fun e T' w' => match e with | .exit id' => if id' = id then Q .normal T' w' else Q (.exit id') T' w' | e => Q e T' w') T w) : GX P n (.block id c) Q T w := fun a hf => by
  refine wp_block (Code.wp_mono ?_ (h a hf))
  rintro e a' w' ⟨T', h1, h2⟩
  cases e with
  | exit id' =>
    simp only [Exit.inBlock] at h2 ⊢
    split at h2
    · rename_i e; subst e; simp; exact ⟨T', h1, h2⟩
    · rename_i e; simp [e]; exact ⟨T', h1, h2⟩
  | _ => exact ⟨T', h1, h2⟩
theorem GX.mono {c : Code} {Q' : Exit → Env → World → Prop} (h : GX P n c Q T w) (k : ∀ e T w, Q e T w → Q' e T w) : GX P n c Q' T w := fun a hf =>
  Code.wp_mono (fun e a' w' ⟨T', h1, h2⟩ => ⟨T', h1, k _ _ _ h2⟩) (h a hf)
theorem GX.loop {c : Code} {σ : Type} (I : σ → Env → World → Prop) (μ : σ → Nat) (s₀ : σ) (h₀ : I s₀ T w)
    (round : ∀ s T w, I s T w → GX P n c (fun e T' w' => match e with | .normal => ∃ s', I s' T' w' ∧ μ s' < μ s | e => Q e T' w') T w) : GX P n (.loop c) Q T w := fun a hf => by
  have key : ∀ m s T w, μ s = m → I s T w → ∀ a, Fits [] n T a → ∀ b k cs,
      ∃ e a' w', (∃ T', Fits [] n T' a' ∧ Q e T' w') ∧ Arrives P (lone (b.at a (.code c :: .inLoop c :: k)) cs w) b k cs e a' w' := by
    intro m
    induction m using Nat.strongRecOn with
    | _ m ih =>
      intro s T w hm hI a hf b k cs
      obtain ⟨e, a₁, w₁, ⟨T₁, hf₁, hq⟩, harr⟩ := round s T w hI a hf b (.inLoop c :: k) cs
      cases e with
      | normal =>
        obtain ⟨s₁, hI₁, hlt⟩ := hq
        obtain ⟨e₂, a₂, w₂, hq₂, harr₂⟩ := ih (μ s₁) (hm ▸ hlt) s₁ T₁ w₁ rfl hI₁ a₁ hf₁ b k cs
        exact ⟨e₂, a₂, w₂, hq₂, .of_steps (Steps.trans harr (.one step_inLoop)) harr₂⟩
      | _ => exact ⟨_, a₁, w₁, ⟨T₁, hf₁, hq⟩, .pass (x := .inLoop c) rfl (fun _ _ => .inl (by simp)) harr⟩
  intro b k cs
  obtain ⟨e, a', w', hq, harr⟩ := key _ s₀ T w rfl h₀ a hf b k cs
  exact ⟨e, a', w', hq, .of_steps (.one step_loop) harr⟩
theorem GX.cond {o : Operand} {x y : Code} {b : Bool} (hb : ev T o = .bool b) (ht : b = true → GX P n x Q T w) (hf : b = false → GX P n y Q T w) : GX P n (.cond o x y) Q T w := fun a hft =>
  wp_cond_split (t := b) (by rw [hft.eval]; exact hb) (fun h => ht h a hft) (fun h => hf h a hft)
theorem GX.ret (h : Q .ret T w) : GX P n .ret Q T w := fun a hf => wp_ret ⟨T, hf, h⟩
theorem GX.skip (h : Q .normal T w) : GX P n .skip Q T w := fun a hf => wp_skip ⟨T, hf, h⟩
theorem GX.exit {id : Nat} (h : Q (.exit id) T w) : GX P n (.exit id) Q T w := fun a hf => wp_exit ⟨T, hf, h⟩
theorem run_yield {o : Oper} {x : Operand} {cl : Call} {l : Nat} {w : World} (hop : o.op = .call cl) (hcal : cl.callee = .value x) (hx : ev T x = .func (.yield l) #[] #[]) :
    (execOp (ev T) o).run P w = (Instr.yield l (cl.args.map (ev T))).run P w := by
  simp [execOp, hop, resolve, hcal, hx, Deferred.ofValue, invoke]
/-- A region in which a round is run: l1 ahead of the call of yield, l2 behind it. -/
theorem GX.yields {id : Nat} {l1 l2 : List Oper} {o : Oper} {x : Operand} {cl : Call} {l m d : Nat} {vs : Array Value} {R : Bool → World → Prop}
    (hop : o.op = .call cl) (hcal : cl.callee = .value x) (hg : o.guard = none) (hd : o.dst = some d) (hdn : d < n) (hq1 : l1.all noDefer = true) (hq2 : l2.all noDefer = true)
    (h1 : VCops ⟨P, w, []⟩ n (l1 ++ o :: l2).toArray l1 (fun T1 _ => ev T1 x = .func (.yield l) #[] #[] ∧ cl.args.map (ev T1) = vs ∧
      (∀ w1, Still P w w1 → YieldAt (FR none) m P l vs w1 fun e w2 => ∃ b, e = .returned (.bool b) ∧ R b w2) ∧
      ∀ b w2, R b w2 → VCops ⟨P, w2, []⟩ n (l1 ++ o :: l2).toArray l2 (fun T2 _ => ∀ w3, Still P w2 w3 → Q .normal T2 w3) (upd T1 d (.bool b)) []) T []) :
    GX P n (.region id (l1 ++ o :: l2).toArray false) Q T w := fun a hf => by
  refine (wpIn_wide (n := m + 1)).1 (show (Code.region id (l1 ++ o :: l2).toArray false).wpIn (FR none) (m + 1) P _ a w from wpIn_region_lit ?_)
  refine VCops_soundIn (Γ := ⟨P, w, []⟩) l1 _ T [] h1 hq1 a w hf (Still.refl P w) ?_
  rintro T1 L1 ⟨hx, hv, hY, hk⟩ a1 w1 hf1 hi1
  have hs1 : Still P w w1 := Inv.tail (A := L1) (by rw [List.append_nil]; exact hi1)
  obtain ⟨fn, tmps, assign, body, hrun, hround⟩ := hY w1 hs1
  have hw : Region.wanted o (yielded (l1 ++ o :: l2).toArray a1.tmps) = true := by unfold Region.wanted; rw [hg]
  simp only [wpListIn, hw, if_true]
  refine ⟨fun _ _ => trivial, ?_⟩
  rw [show (FR none).round = none from rfl, Oper.semAt_none, hf1.eval, run_yield hop hcal hx, hv, hrun]
  refine ⟨fun h => absurd h (by simp [FR, Fence.wide]), RoundIn.mono hround ?_⟩
  rintro e w2 ⟨b, rfl, hr⟩
  show wpListIn (FR none) (m + 1) P _ _ l2 (a1.put o.dst (.bool b)) w2
  rw [hd]
  have := VCops_soundIn (Γ := ⟨P, w2, []⟩) (ro := none) (m := m + 1) (l2 := []) (Q := fun e a' w' => ∃ T', Fits [] n T' a' ∧ Q e T' w') l2 _ _ [] (hk b w2 hr) hq2 _ w2 (hf1.put hdn _) (Still.refl P w2)
    (fun T2 L2 h2 a2 w3 hf2 hi2 => ⟨T2, hf2, h2 w3 (Inv.tail (A := L2) (by rw [List.append_nil]; exact hi2))⟩)
  rwa [List.append_nil] at this
theorem GX.enter {f : FuncId} {fn : Func} {c : Code} {args : List Value} {R : World → Prop} (hf : P.funcs[f]? = some fn) (hb : fn.body = some c) (hn : fn.ntmps = n) (hle : args.length ≤ n) (hres : fn.results = #[])
    (h : GX P n c (fun e _ w' => match e with | .normal => R w' | .ret => R w' | _ => False) (env0 args) w) : Calls P f args.toArray w fun e w' => (∃ v, e = .returned v) ∧ R w' := by
  refine calls_of_wp hf hb (Code.wp_mono ?_ (h _ ⟨?_, rfl, fun i => ?_⟩))
  · rintro e a' w' ⟨T', h1, h2⟩
    cases e with
    | normal => exact ⟨h1.2.1, _, results_none hres _ _ _, ⟨_, rfl⟩, h2⟩
    | ret => exact ⟨h1.2.1, _, results_none hres _ _ _, ⟨_, rfl⟩, h2⟩
    | _ => exact h2.elim
  · simp [hn]; omega
  · rw [env0_getD]
    simp only [Array.getD_eq_getD_getElem?, List.getD_eq_getElem?_getD]
    rw [Array.getElem?_append]
    split
    · simp
    · rename_i hge
      simp at hge
      rw [List.getElem?_eq_none hge]
      simp only [Array.getElem?_replicate]
      split <;> rfl
end
/-! Round by round: the slots' blocks are the round's own, all else lies as it lay. -/
theorem Inv.other {Γ : Ctx} {L : Hp} {W W' : World} {row : Option Nat} (h : Inv Γ L W) (hg : W.grownBy W' row) (hr : ∀ r, row = some r → Γ.w0.heap.size ≤ r ∧ ∀ o, some (r, o) ∉ L) : Inv Γ L W' :=
  ⟨h.inj, fun b o hm => (hg.block b (h.lt hm) (fun e => (hr b e.symm).2 o hm)).trans (h.blk b o hm), h.src, hg.os.trans h.os, hg.tape.trans h.tape, hg.output.trans h.output, Nat.le_trans h.size hg.size,
    fun b hb ho => (hg.block b (Nat.lt_of_lt_of_le hb h.size) (fun e => by have := (hr b e.symm).1; omega)).trans (h.old b hb ho)⟩
/-- A block of cells of a type that is none of these. -/
def tagged (ts : List Nat) (o : Obj) : Prop := ∃ cs t fr, o = .cells cs t fr ∧ t ∉ ts
theorem Inv.others {Γ : Ctx} {L : Hp} {W W' : World} {row : Option Nat} {ts : List Nat} {B : Nat} (h : Inv Γ L W) (hL : ∀ b o, some (b, o) ∈ L → tagged ts o) (hB : Γ.w0.heap.size ≤ B) (hg : W.grownBy W' row) (hr : ∀ r, row = some r → B ≤ r ∧ ∃ o : Obj, W.heap[r]? = some o ∧ o.isCells = false) : Inv Γ L W' :=
  h.other hg fun r e => ⟨Nat.le_trans hB (hr r e).1, fun o hm => by
    obtain ⟨cs, t, fr, rfl, _⟩ := hL r o hm
    obtain ⟨_, o', ho', hc⟩ := hr r e
    rw [h.blk r _ hm] at ho'
    cases ho'
    cases hc⟩
end Go.SX
set_option linter.unusedVariables false
set_option linter.unusedSimpArgs false
namespace Go.SX
open Go.RowKit
section
variable {Γ : Ctx} {L : Hp}

theorem setN_app : ∀ (vs A B : List Value), vs.length ≤ B.length → setN (A ++ B) A.length vs = A ++ vs ++ B.drop vs.length := by
  intro vs
  induction vs with
  | nil => intro A B _; simp [setN]
  | cons v vs ih =>
    intro A B hl
    cases B with
    | nil => simp at hl
    | cons b B =>
      simp only [setN]
      have e : (A ++ b :: B).set A.length v = (A ++ [v]) ++ B := by simp
      rw [e, show A.length + 1 = (A ++ [v]).length by simp, ih (A ++ [v]) B (by simpa using hl)]
      simp

/-- What is appended. -/
def SrcV (Γ : Ctx) (L : Hp) (sz : Nat) (tx : TypeId) (x : Value) (m : Nat) (ys : List Value) : Prop := ∀ w, Inv Γ L w → Src Γ.P sz tx x m ys w
theorem SrcV.slice {sz : Nat} {tx : TypeId} {a : Addr} {m c : Nat} {ys : List Value} (ht : (elS Γ.P tx).isSome = true) (hl : ys.length = m * sz) (h : ∀ j u, ys[j]? = some u → Cell Γ L (a.add j) u) (h1 : oneB ys = true) :
    SrcV Γ L sz tx (.slice (some a) m c) m ys := fun w hi => by
  obtain ⟨e, he⟩ := elS_isSome ht
  exact Src.ofSlice w he a m c ys hl (fun j u hj => (h j u hj).real hi) (fun u hu => List.all_eq_true.1 h1 u hu)
theorem SrcV.nil {sz : Nat} {tx : TypeId} {c : Nat} (ht : (elS Γ.P tx).isSome = true) : SrcV Γ L sz tx (.slice none 0 c) 0 [] := fun w hi => by
  obtain ⟨e, he⟩ := elS_isSome ht
  exact Src.ofNil w he c
/-- A literal that was just made. -/
theorem SrcV.lit {sz : Nat} {tx : TypeId} {b m c : Nat} {e : TypeId} {fr : Nat × Nat} {ys : List Value} (ht : (elS Γ.P tx).isSome = true) (hl : ys.length = m * sz) (h1 : oneB ys = true) :
    SrcV Γ (some (b, .cells ys.toArray e fr) :: L) sz tx (.slice (some ⟨b, 0, none⟩) m c) m ys :=
  SrcV.slice ht hl (fun j u hj => by
    rw [Addr.add_lit, Nat.zero_add]
    exact Cell.own 0 rfl (by simpa using hj)) h1
theorem SrcV.str {tx : TypeId} {s : ByteArray} (ht : Γ.P.underlying tx = some .string) : SrcV Γ L 1 tx (.string s) s.size (bytesV s) := fun w hi => Src.ofString w ht s

theorem zeroCells_eq (z : List Value) (k : Nat) : (Builtin.zeroCells z.toArray k).toList.length = k * z.length := by
  simp [Builtin.zeroCells]

/-- Both ways of an append: into the room behind, and into new memory. -/
theorem YAppend.both {ty tx e : TypeId} {sz by_ : Nat} {z : List Value} {base : Option Addr} {n cap : Nat} {x : Value} {m : Nat} {olds ys : List Value} {K : Value → Hp → Prop}
    (hel : elS Γ.P ty = some (e, sz, by_)) (hz : zr Γ.P e = some z) (hzl : z.length = sz) (hsrc : SrcV Γ L sz tx x m ys) (hol : olds.length = n * sz)
    (hold : ∀ j u, olds[j]? = some u → ∃ a, base = some a ∧ Cell Γ L (a.add j) u) (hn0 : base = none → n = 0) (hb : (n + m) * by_ ≤ 140737488355328) (hb0 : 0 < by_)
    (hin : n + m ≤ cap → (∃ ad, base = some ad ∧ ad.spot = none ∧ ∃ (i : Nat) (cs : List Value) (t' : TypeId) (fr : Nat × Nat), L[i]? = some (some (ad.block, .cells cs.toArray t' fr)) ∧ ad.off + n * sz + ys.length ≤ cs.length ∧
        (ad.off + n * sz + ys.length ≤ fr.1 ∨ fr.2 ≤ ad.off + n * sz) ∧ K (.slice base (n + m) cap) (L.set i (some (ad.block, .cells (setN cs (ad.off + n * sz) ys).toArray t' fr)))) ∨ (m = 0 ∧ K (.slice base (n + m) cap) L))
    (hgrow : cap < n + m → ∀ g cap' junk, n + m ≤ cap' → cap' ≤ maxLen → junk.length = (cap' - (n + m)) * sz → K (.slice (some ⟨g, 0, none⟩) (n + m) cap') (some (g, .cells (olds ++ ys ++ junk).toArray e (0, 0)) :: L)) :
    YAppend Γ ty tx (.slice base n cap) x L K := by
  intro w hi
  obtain ⟨hu, i0, hi1, hi2, hi3⟩ := elS_some hel
  obtain ⟨vz, hvz, hzc⟩ := Option.map_eq_some_iff.1 (show ((Γ.P.info? e).bind (·.zero)).map (fun v => v.cells.toList) = some z from hz)
  obtain ⟨i', hi', hz'⟩ := Option.bind_eq_some_iff.1 hvz
  rw [hi1] at hi'
  cases hi'
  have hs : Src Γ.P i0.size tx x m ys w := by rw [hi2]; exact hsrc w hi
  have hle : n + m ≤ 140737488355328 := Nat.le_trans (Nat.le_mul_of_pos_right _ hb0) hb
  by_cases hcap : n + m ≤ cap
  · rcases hin hcap with ⟨ad, rfl, hsp, i, cs, t', fr, hL, hlen, hfr, hk⟩ | ⟨rfl, hk⟩
    · obtain ⟨b, off, sp⟩ := ad
      simp only at hsp
      subst hsp
      have hblk := hi.blk _ _ (List.mem_of_getElem? hL)
      simp only at hblk hlen hfr hk hL
      have hrun := run_append_room_src (P := Γ.P) w ty tx ty e i0 hu hi1 b off n cap x m ys hs hcap
        (fun j hj => by simp [World.cell?, hblk, hi2]; omega)
        (fun j hj => by simp only [World.frozen?, hblk, hi2, Bool.and_eq_false_iff, decide_eq_false_iff_not]; omega)
      obtain ⟨w', hr, h2, h3, h4, h5, h6, h7⟩ := run_storeCells (P := Γ.P) ys w b (off + n * sz) 0 cs t' fr hblk (by simpa using hlen) (by simpa using hfr) (by simpa [oneB] using hs.one)
      have hst := run_storeCells_cells (P := Γ.P) b (off + n * i0.size) ys 0 w (by intro j hj; simp [World.cell?, hblk, hi2]; omega) (by intro j hj; simp only [World.frozen?, hblk, hi2, Bool.and_eq_false_iff, decide_eq_false_iff_not]; omega) hs.one
      simp only [Nat.add_zero, hi2] at hst
      rw [hr] at hst
      have hw' : w' = w.setCells b (off + n * sz) ys := by injection hst
      refine ⟨_, w', _, fun t => ?_, hi.set hL (by simpa using h2) h3 h4 h5 h6 h7, hk⟩
      have hrun' := run_append_room_src (P := Γ.P) w ty tx t e i0 hu hi1 b off n cap x m ys hs hcap
        (fun j hj => by simp [World.cell?, hblk, hi2]; omega)
        (fun j hj => by simp only [World.frozen?, hblk, hi2, Bool.and_eq_false_iff, decide_eq_false_iff_not]; omega)
      rw [hrun', hw', hi2]
    · have hys : ys = [] := List.eq_nil_of_length_eq_zero (by have := hs.newsLen; simpa using this)
      subst hys
      exact ⟨_, w, L, fun t => run_append_nothing w ty tx t e i0 hu hi1 base n cap (by omega) x hs, hi, hk⟩
  · have hg : cap < n + m := by omega
    have hvc : vz.cells = z.toArray := by rw [← hzc]
    have hold' : (Builtin.firstCells i0.size n (.slice base n cap)).run Γ.P w.drew = .ok olds.toArray w.drew := by
      cases base with
      | none =>
        have h0 := hn0 rfl
        subst h0
        have : olds = [] := List.eq_nil_of_length_eq_zero (by simpa using hol)
        subst this
        exact run_firstCells_none w.drew i0.size 0 0 cap
      | some a =>
        refine run_firstCells_some w.drew i0.size n a n cap olds (by rw [hi2]; exact hol) (fun j u hj => ?_)
        obtain ⟨a', ha', hc⟩ := hold j u hj
        cases ha'
        exact hc.real hi.drew
    have hfit : Builtin.nextslicecap (n + m) cap * i0.bytes ≤ 281474976710656 := by rw [hi3]; exact growslice_fits hg hb
    refine ⟨_, _, _, fun t => run_append_grow_src (P := Γ.P) w ty tx t e i0 vz hu hi1 hz' base n cap olds hold' x m ys hs hg (by omega) hfit, hi.drew.alloc _, ?_⟩
    have hc1 : n + m ≤ grownCap w (n + m) cap e := by unfold grownCap Question.cut; exact Nat.le_add_right _ _
    have := hgrow hg w.heap.size (grownCap w (n + m) cap e) (Builtin.zeroCells z.toArray (grownCap w (n + m) cap e - (n + m))).toList hc1 (grownCap_le_maxLen w (n + m) cap e (by have : (maxLen : Nat) = 9223372036854775807 := rfl; omega)) (by rw [zeroCells_eq, hzl])
    have e1 : (olds ++ ys).toArray ++ Builtin.zeroCells vz.cells (grownCap w (n + m) cap e - (n + m)) = (olds ++ ys ++ (Builtin.zeroCells z.toArray (grownCap w (n + m) cap e - (n + m))).toList).toArray := by
      rw [hvc]
      apply Array.ext'
      simp
    rw [e1]
    exact this


/-- A slice of one's own: v has n elements of type e (sz cells each), whose cells are xs; s: the slot of its block. -/
def Row (e sz : Nat) (v : Value) (n : Nat) (xs : List Value) (s : Slot) : Prop :=
  xs.length = n * sz ∧ ((v = .slice none 0 0 ∧ n = 0 ∧ s = none) ∨ ∃ g cap junk, v = .slice (some ⟨g, 0, none⟩) n cap ∧ s = some (g, .cells (xs ++ junk).toArray e (0, 0)) ∧ (n ≤ cap ∧ cap ≤ 9223372036854775807) ∧ (xs ++ junk).length = cap * sz)
theorem Row.nil (e sz : Nat) : Row e sz (.slice none 0 0) 0 [] none := ⟨by simp, .inl ⟨rfl, rfl, rfl⟩⟩
theorem Row.lit {e sz b n : Nat} {xs : List Value} (h : xs.length = n * sz) (hb : n ≤ 9223372036854775807) : Row e sz (.slice (some ⟨b, 0, none⟩) n n) n xs (some (b, .cells xs.toArray e (0, 0))) :=
  ⟨h, .inr ⟨b, n, [], rfl, by simp, ⟨Nat.le_refl _, hb⟩, by simpa using h⟩⟩
theorem Row.cell {e sz n i : Nat} {v : Value} {xs : List Value} {s : Slot} (h : Row e sz v n xs s) (hL : L[i]? = some s) {j : Nat} {u : Value} (hj : xs[j]? = some u) :
    ∃ a c, v = .slice (some a) n c ∧ a.spot = none ∧ Cell Γ L (a.add j) u := by
  obtain ⟨hl, ⟨rfl, rfl, rfl⟩ | ⟨g, cap, junk, rfl, rfl, hc, hlen⟩⟩ := h
  · simp at hl; subst hl; simp at hj
  · refine ⟨⟨g, 0, none⟩, cap, rfl, rfl, ?_⟩
    rw [Addr.add_lit, Nat.zero_add]
    refine Cell.own i hL ?_
    have hlt := (List.getElem?_eq_some_iff.1 hj).1
    simp [List.getElem?_append_left hlt, hj]
theorem Row.form {e sz n : Nat} {v : Value} {xs : List Value} {s : Slot} (h : Row e sz v n xs s) : ∃ A c, v = .slice A n c ∧ n ≤ c ∧ xs.length = n * sz := by
  obtain ⟨hl, ⟨rfl, rfl, rfl⟩ | ⟨g, cap, junk, rfl, rfl, hc, hlen⟩⟩ := h
  · exact ⟨none, 0, rfl, Nat.le_refl _, hl⟩
  · exact ⟨_, cap, rfl, hc.1, hl⟩

/-- append to a slice of one's own. -/
theorem YAppend.row {ty tx e : TypeId} {sz by_ : Nat} {z : List Value} {v x : Value} {n m i : Nat} {xs ys : List Value} {s : Slot} {K : Value → Hp → Prop}
    (hel : elS Γ.P ty = some (e, sz, by_)) (hz : zr Γ.P e = some z) (hzl : z.length = sz) (hL : L[i]? = some s) (hr : Row e sz v n xs s) (hsrc : SrcV Γ L sz tx x m ys) (hyl : ys.length = m * sz)
    (hb : (n + m) * by_ ≤ 140737488355328) (hb0 : 0 < by_) (hK : ∀ v' s', Row e sz v' (n + m) (xs ++ ys) s' → K v' (L.set i s')) : YAppend Γ ty tx v x L K := by
  have hr0 := hr
  obtain ⟨hl, hform⟩ := hr
  have hlen : (xs ++ ys).length = (n + m) * sz := by rw [List.length_append, hl, hyl, Nat.add_mul]
  rcases hform with ⟨rfl, rfl, rfl⟩ | ⟨g, cap, junk, rfl, rfl, hc, hcl⟩
  · have hxs : xs = [] := List.eq_nil_of_length_eq_zero (by simpa using hl)
    subst hxs
    intro w hi
    rcases Nat.eq_zero_or_pos m with hm | hm
    · subst hm
      have hys : ys = [] := List.eq_nil_of_length_eq_zero (by simpa using hyl)
      subst hys
      have := YAppend.both (Γ := Γ) (L := L) (ty := ty) (tx := tx) (x := x) (olds := []) (base := none) (n := 0) (cap := 0) (K := fun v' L' => v' = .slice none 0 0 ∧ L' = L) hel hz hzl hsrc (by simp) (by simp) (fun _ => rfl) hb hb0 (fun _ => .inr ⟨rfl, rfl, rfl⟩) (fun h => absurd h (by omega)) w hi
      obtain ⟨v, w', L', h1, h2, rfl, rfl⟩ := this
      have hk := hK _ none (Row.nil e sz)
      refine ⟨_, w', _, h1, ?_, hk⟩
      have e0 : L'.set i none = L' := by
        apply List.ext_getElem?
        intro j
        rw [List.getElem?_set]
        split
        · rename_i hij; subst hij; rw [hL]; split <;> simp_all
        · rfl
      rw [e0]
      exact h2
    · have := YAppend.both (Γ := Γ) (L := L) (ty := ty) (tx := tx) (x := x) (olds := []) (base := none) (n := 0) (cap := 0) (m := m) (ys := ys) (K := fun v' L' => ∃ g cap' junk, v' = .slice (some ⟨g, 0, none⟩) (0 + m) cap' ∧ (0 + m ≤ cap' ∧ cap' ≤ 9223372036854775807) ∧ junk.length = (cap' - (0 + m)) * sz ∧ L' = some (g, .cells ([] ++ ys ++ junk).toArray e (0, 0)) :: L) hel hz hzl hsrc (by simp) (by simp) (fun _ => rfl) hb hb0 (fun h => absurd h (by omega)) (fun _ g cap' junk h1 hM h2 => ⟨g, cap', junk, rfl, ⟨h1, hM⟩, h2, rfl⟩) w hi
      obtain ⟨v, w', L', h1, h2, g, cap', junk, rfl, h3, h4, rfl⟩ := this
      refine ⟨_, w', _, h1, h2.put i, hK _ _ ⟨hlen, .inr ⟨g, cap', junk, rfl, rfl, h3, ?_⟩⟩⟩
      rw [List.length_append, hlen, h4, ← Nat.add_mul]
      congr 1
      omega
  · intro w hi
    have hcell : ∀ j u, xs[j]? = some u → ∃ a, (some ⟨g, 0, none⟩ : Option Addr) = some a ∧ Cell Γ L (a.add j) u := fun j u hj => by
      obtain ⟨a, c, he, _, hc⟩ := hr0.cell (Γ := Γ) hL hj
      injection he with e1
      exact ⟨a, e1, hc⟩
    have hjl : junk.length = (cap - n) * sz := by
      rw [List.length_append, hl] at hcl
      have : cap * sz = n * sz + (cap - n) * sz := by rw [← Nat.add_mul]; congr 1; omega
      omega
    have := YAppend.both (Γ := Γ) (L := L) (ty := ty) (tx := tx) (x := x) (olds := xs) (base := some ⟨g, 0, none⟩) (cap := cap) (n := n) (m := m) (ys := ys) (K := fun v' L' => (n + m ≤ cap ∧ v' = .slice (some ⟨g, 0, none⟩) (n + m) cap ∧ L' = L.set i (some (g, .cells (setN (xs ++ junk) (0 + n * sz) ys).toArray e (0, 0)))) ∨ ∃ g' cap' junk', v' = .slice (some ⟨g', 0, none⟩) (n + m) cap' ∧ (n + m ≤ cap' ∧ cap' ≤ 9223372036854775807) ∧ junk'.length = (cap' - (n + m)) * sz ∧ L' = some (g', .cells (xs ++ ys ++ junk').toArray e (0, 0)) :: L)
      hel hz hzl hsrc hl hcell (fun h => by cases h) hb hb0
      (fun h => .inl ⟨⟨g, 0, none⟩, rfl, rfl, i, xs ++ junk, e, (0, 0), hL, by
        simp only [Nat.zero_add]
        rw [hcl, hyl, ← Nat.add_mul]
        exact Nat.mul_le_mul_right _ h, .inr (Nat.zero_le _), .inl ⟨h, rfl, rfl⟩⟩)
      (fun _ g' cap' junk' h1 hM h2 => .inr ⟨g', cap', junk', rfl, ⟨h1, hM⟩, h2, rfl⟩) w hi
    obtain ⟨v, w', L', h1, h2, ⟨h3, rfl, rfl⟩ | ⟨g', cap', junk', rfl, h3, h4, rfl⟩⟩ := this
    · refine ⟨_, w', _, h1, h2, hK _ _ ⟨hlen, .inr ⟨g, cap, junk.drop ys.length, rfl, ?_, ⟨h3, hc.2⟩, ?_⟩⟩⟩
      · have hset := setN_app ys xs junk (by
          rw [hyl, hjl]
          exact Nat.mul_le_mul_right _ (by omega))
        rw [hl] at hset
        rw [Nat.zero_add, hset]
      · rw [List.length_append, hlen, List.length_drop, hyl, hjl, ← Nat.sub_mul, ← Nat.add_mul]
        congr 1
        omega
    · refine ⟨_, w', _, h1, h2.put i, hK _ _ ⟨hlen, .inr ⟨g', cap', junk', rfl, rfl, h3, ?_⟩⟩⟩
      rw [List.length_append, hlen, h4, ← Nat.add_mul]
      congr 1
      omega

/-- A row reads as a slice. -/
theorem Row.sl {α : Type} {e sz n i : Nat} {v : Value} {xs : List Value} {s : Slot} {R : (Addr → Value → Prop) → Addr → α → Prop} {l : List α} (h : Row e sz v n xs s) (hL : L[i]? = some s) (hn : l.length = n)
    (hR : ∀ (C : Addr → Value → Prop) (j : Nat) (x : α) (a : Addr), l[j]? = some x → (∀ k, k < sz → ∀ u, xs[j * sz + k]? = some u → C (a.add k) u) → R C a x) : Sl sz R (Cell Γ L) v l := by
  obtain ⟨A, c, rfl, hc, hl⟩ := h.form
  refine ⟨A, c, by rw [hn], by omega, fun j x hj => ?_⟩
  have hjn : j < n := by have := (List.getElem?_eq_some_iff.1 hj).1; omega
  have hA : ∃ a, A = some a := by
    obtain ⟨_, ⟨e1, rfl, _⟩ | ⟨g, cap, junk, e1, _⟩⟩ := h
    · omega
    · injection e1 with e1; exact ⟨_, e1⟩
  obtain ⟨a, rfl⟩ := hA
  refine ⟨a, rfl, hR _ j x _ hj fun k hk u hu => ?_⟩
  obtain ⟨a', c', e1, _, hcell⟩ := h.cell (Γ := Γ) hL hu
  injection e1 with e1 _ _
  injection e1 with e1
  subst e1
  rwa [add_addS]
end
end Go.SX
set_option linter.unusedVariables false
set_option linter.unusedSimpArgs false
/-! Numbers and lists for the walks. -/
namespace Go.SX
open Go.RowKit
theorem Cell.at {Γ : Ctx} {L : Hp} (i : Nat) {b off : Nat} {v : Value} {xs : List Value} {t : TypeId} {fr : Nat × Nat} (h : L[i]? = some (some (b, .cells xs.toArray t fr))) (hc : xs[off]? = some v) : Cell Γ L ⟨b, off, none⟩ v :=
  Cell.own i h (by simpa using hc)
/-- Whole numbers as values. -/
def ints (k : IntKind) (l : List Int) : List Value := l.map fun x => .int k x
theorem ints_length (k : IntKind) (l : List Int) : (ints k l).length = l.length := by simp [ints]
theorem ints_app (k : IntKind) (l m : List Int) : ints k (l ++ m) = ints k l ++ ints k m := by simp [ints]
theorem ints_oneB (k : IntKind) (l : List Int) : oneB (ints k l) = true := by simp [ints, oneB, Value.oneCell']
theorem ints_at (k : IntKind) (l : List Int) (j : Nat) : (ints k l)[j]? = l[j]?.map (.int k) := by simp [ints]
theorem zerosV_ints (k : IntKind) (x : Int) (n : Nat) : zerosV [.int k x] n = ints k (List.replicate n x) := by
  unfold zerosV ints
  rw [List.map_replicate]
  induction n with
  | zero => rfl
  | succ n ih => rw [List.replicate_succ, List.flatten_cons, ih, List.replicate_succ]; rfl
theorem ints_set (k : IntKind) (l : List Int) (j : Nat) (x : Int) : (ints k l).set j (.int k x) = ints k (l.set j x) := by simp [ints, List.map_set]
/-- A row of whole numbers. -/
abbrev RowI (k : IntKind) (e : TypeId) (v : Value) (l : List Int) (s : Slot) : Prop := Row e 1 v l.length (ints k l) s
theorem RowI.nil (k : IntKind) (e : TypeId) : RowI k e (.slice none 0 0) [] none := Row.nil e 1
theorem RowI.sl {Γ : Ctx} {L : Hp} {k : IntKind} {e i : Nat} {v : Value} {l : List Int} {s : Slot} (h : RowI k e v l s) (hL : L[i]? = some s) : SlI k (Cell Γ L) v l :=
  Row.sl h hL rfl fun C j x a hj hc => by
    have := hc 0 (by omega) (.int k x) (by rw [Nat.mul_one, Nat.add_zero, ints_at, hj]; rfl)
    simpa [RInt, Addr.add] using this
theorem SlI.own {Γ : Ctx} {L : Hp} {k : IntKind} {xs : List Int} {b n c : Nat} {e : TypeId} {fr : Nat × Nat} (i : Nat) (hL : L[i]? = some (some (b, .cells (ints k xs).toArray e fr))) (hn : n = xs.length) (hc : n ≤ c) :
    SlI k (Cell Γ L) (.slice (some ⟨b, 0, none⟩) n c) xs := by
  subst hn
  refine ⟨_, c, rfl, hc, fun j x hj => ⟨_, rfl, ?_⟩⟩
  show Cell Γ L _ _
  rw [Nat.mul_one, Addr.add_lit, Nat.zero_add]
  exact Cell.own i hL (by simp [ints, hj])
theorem SlI.cons {Γ : Ctx} {L : Hp} {k : IntKind} {xs : List Int} {v : Value} (p : Slot) (h : SlI k (Cell Γ L) v xs) : SlI k (Cell Γ (p :: L)) v xs := by
  obtain ⟨A, c, h1, h2, h3⟩ := h
  exact ⟨A, c, h1, h2, fun j x hj => let ⟨a, e1, e2⟩ := h3 j x hj; ⟨a, e1, Cell.cons p e2⟩⟩
theorem RowI.form {k : IntKind} {e : TypeId} {v : Value} {l : List Int} {s : Slot} (h : RowI k e v l s) (hl : 0 < l.length) :
    ∃ r cap junk, v = .slice (some ⟨r, 0, none⟩) l.length cap ∧ s = some (r, .cells (ints k l ++ junk).toArray e (0, 0)) ∧ l.length ≤ cap ∧ cap ≤ 9223372036854775807 := by
  obtain ⟨_, ⟨_, hn, _⟩ | ⟨r, cap, junk, h1, h2, h3, _⟩⟩ := h
  · omega
  · exact ⟨r, cap, junk, h1, h2, h3⟩
theorem ints_app_at {k : IntKind} {l : List Int} {junk : List Value} {j : Nat} (hj : j < l.length) : (ints k l ++ junk)[j]? = some (.int k (l.getD j 0)) := by
  rw [List.getElem?_append_left (by rw [ints_length]; exact hj), ints_at, List.getElem?_eq_getElem hj]
  simp [List.getD_eq_getElem?_getD, List.getElem?_eq_getElem hj]
theorem SlI.row {Γ : Ctx} {L : Hp} {k : IntKind} {xs : List Int} {junk : List Value} {b n c : Nat} {e : TypeId} {fr : Nat × Nat} (i : Nat) (hL : L[i]? = some (some (b, .cells (ints k xs ++ junk).toArray e fr))) (hn : n = xs.length) (hc : n ≤ c) :
    SlI k (Cell Γ L) (.slice (some ⟨b, 0, none⟩) n c) xs := by
  subst hn
  refine ⟨_, c, rfl, hc, fun j x hj => ⟨_, rfl, ?_⟩⟩
  show Cell Γ L _ _
  rw [Nat.mul_one, Addr.add_lit, Nat.zero_add]
  have hjl := (List.getElem?_eq_some_iff.1 hj).1
  exact Cell.own i hL (by simp only [List.getElem?_toArray]; rw [ints_app_at hjl]; simp [List.getD_eq_getElem?_getD, hj])
/-- append(v, x). -/
theorem YAppend.int1 {Γ : Ctx} {L : Hp} {k : IntKind} {ty e by_ i b : Nat} {z : List Value} {v : Value} {l : List Int} {x : Int} {s : Slot} {fr : Nat × Nat} {K : Value → Hp → Prop}
    (hel : elS Γ.P ty = some (e, 1, by_)) (hz : zr Γ.P e = some z) (hzl : z.length = 1) (hL : L[i]? = some s) (hr : RowI k e v l s)
    (hb : (l.length + 1) * by_ ≤ 140737488355328) (hb0 : 0 < by_) (hK : ∀ v' s', RowI k e v' (l ++ [x]) s' → K v' (some (b, .cells #[.int k x] e fr) :: L.set i s')) :
    YAppend Γ ty ty v (.slice (some ⟨b, 0, none⟩) 1 1) (some (b, .cells #[.int k x] e fr) :: L) K := by
  refine YAppend.row (i := i + 1) (ys := [.int k x]) (m := 1) hel hz hzl (by simpa using hL) hr (SrcV.lit (ys := [.int k x]) (by rw [hel]; rfl) rfl rfl) rfl hb hb0 fun v' s' hr' => ?_
  have := hK v' s' (by
    show Row e 1 v' (l ++ [x]).length (ints k (l ++ [x])) s'
    rw [ints_app, List.length_append]
    exact hr')
  simpa using this
/-- append(v, xs..). -/
theorem YAppend.ints {Γ : Ctx} {L : Hp} {k : IntKind} {ty e by_ i : Nat} {z : List Value} {v x : Value} {l m : List Int} {s : Slot} {K : Value → Hp → Prop}
    (hel : elS Γ.P ty = some (e, 1, by_)) (hz : zr Γ.P e = some z) (hzl : z.length = 1) (hL : L[i]? = some s) (hr : RowI k e v l s) (hx : SlI k (Cell Γ L) x m)
    (hb : (l.length + m.length) * by_ ≤ 140737488355328) (hb0 : 0 < by_) (hK : ∀ v' s', RowI k e v' (l ++ m) s' → K v' (L.set i s')) : YAppend Γ ty ty v x L K := by
  obtain ⟨A, c, rfl, hc, hA⟩ := hx
  refine YAppend.row (i := i) (ys := SX.ints k m) (m := m.length) hel hz hzl hL hr ?_ (by rw [ints_length, Nat.mul_one]) hb hb0 fun v' s' hr' => hK v' s' (by
    show Row e 1 v' (l ++ m).length (SX.ints k (l ++ m)) s'
    rw [ints_app, List.length_append]
    exact hr')
  cases hm : m with
  | nil =>
    cases A with
    | none => exact SrcV.nil (by rw [hel]; rfl)
    | some a => exact SrcV.slice (by rw [hel]; rfl) rfl (fun j u hj => by simp [SX.ints] at hj) rfl
  | cons x0 m' =>
    obtain ⟨a, rfl, _⟩ := hA 0 x0 (by rw [hm]; rfl)
    rw [← hm]
    refine SrcV.slice (by rw [hel]; rfl) (by rw [ints_length, Nat.mul_one]) (fun j u hj => ?_) (ints_oneB k m)
    rw [ints_at] at hj
    obtain ⟨x, hx, rfl⟩ := Option.map_eq_some_iff.1 hj
    obtain ⟨a', ha', hc'⟩ := hA j x hx
    cases ha'
    simpa [RInt] using hc'
/-- Numbers as a text's bytes. -/
def txt (l : List Int) : ByteArray := ⟨(l.map fun n => UInt8.ofNat n.toNat).toArray⟩
def Byte (l : List Int) : Prop := ∀ x ∈ l, 0 ≤ x ∧ x ≤ 255
theorem txt_size (l : List Int) : (txt l).size = l.length := by simp [txt, ByteArray.size]
theorem byte_back {x : Int} (h : 0 ≤ x ∧ x ≤ 255) : ((UInt8.ofNat x.toNat).toNat : Int) = x := by
  have : (UInt8.ofNat x.toNat).toNat = x.toNat := by simp; omega
  omega
/-- string(v). -/
theorem conv_row {Γ : Ctx} {L : Hp} {s d e : TypeId} {x : Value} {l : List Int} {K : Value → Prop} {D : Prop} (hs : Γ.P.underlying s = some (.slice e)) (hd : Γ.P.underlying d = some .string) (he : Γ.P.underlying e = some (.int .u8))
    (hx : SlI .u8 (Cell Γ L) x l) (hb : Byte l) (hK : K (.string (txt l))) : convVC Γ s d x L K D := by
  obtain ⟨A, c, rfl, hc, hA⟩ := hx
  cases A with
  | none =>
    have : l = [] := by
      cases l with
      | nil => rfl
      | cons x l => obtain ⟨a, ha, _⟩ := hA 0 x rfl; cases ha
    subst this
    rw [conv_nil, hs, hd]
    exact ⟨he, hK⟩
  | some a =>
    rw [conv_slice, hs, hd]
    refine ⟨he, l.map (fun n : Int => UInt8.ofNat n.toNat), by simp, fun j h => ?_, hK⟩
    have hj : j < l.length := by simpa using h
    obtain ⟨a', ha', hc'⟩ := hA j l[j] (List.getElem?_eq_getElem hj)
    cases ha'
    have hb' := hb l[j] (List.getElem_mem hj)
    simp only [List.getElem_map, byte_back hb']
    simpa [RInt] using hc'
theorem mapM_range {β : Type} {f : Nat → Option β} : ∀ {n : Nat} {g : List β}, g.length = n → (∀ i, i < n → f i = g[i]?) → (List.range n).mapM f = some g := by
  intro n
  induction n with
  | zero => intro g hg _; cases g with | nil => rfl | cons _ _ => cases hg
  | succ n ih =>
    intro g hg h
    have hl : n < g.length := by omega
    have h1 : (g.take n).length = n := by rw [List.length_take]; omega
    have h2 := ih h1 fun i hi => by rw [h i (by omega), List.getElem?_take, if_pos hi]
    have h3 : f n = some g[n] := by rw [h n (by omega), List.getElem?_eq_getElem hl]
    rw [List.range_succ, List.mapM_append, h2]
    simp only [List.mapM_cons, List.mapM_nil, h3, Option.pure_def, Option.bind_eq_bind, Option.bind_some]
    rw [List.take_append_getElem hl, List.take_of_length_le (by omega)]
/-- A text's bytes as numbers. -/
def nums8 (s : ByteArray) : List Int := s.data.toList.map fun b => (b.toNat : Int)
theorem nums8_length (s : ByteArray) : (nums8 s).length = s.size := by simp [nums8]
theorem nums8_byte (s : ByteArray) : Byte (nums8 s) := by
  intro x hx
  obtain ⟨b, _, rfl⟩ := List.mem_map.1 hx
  have := b.toNat_lt
  omega
theorem index_nums8 {s : ByteArray} {i : Nat} (h : i < s.size) : ∃ b : UInt8, s.data.toList[i]? = some b ∧ (nums8 s)[i]? = some (b.toNat : Int) := by
  have : i < s.data.toList.length := by simpa using h
  exact ⟨_, List.getElem?_eq_getElem this, by simp [nums8, List.getElem?_eq_getElem this]⟩
end Go.SX
set_option linter.unusedVariables false
set_option linter.unusedSimpArgs false
/-! The last step of a law that answers true and leaves its arguments as they were. -/
namespace Go.SX
open Go.ChangeShapes Go.WideShapes Go.ChangeAt Go.RowKit
section
variable {H : Type} {enc : TypeId × Value → H} {P : Program}

theorem SCall.below {f : FuncId} {args : Array Value} {W : World} {v : Value} (h : SCall ⟨P, W, []⟩ f args [] (fun v' L' => v' = v ∧ L' = [])) :
    Calls P f args W fun e W' => e = .returned v ∧ Below W.heap.size W W' := by
  have hi : Inv ⟨P, W, []⟩ [] W := ⟨fun i j b o o' h => by simp at h, fun b o h => by simp at h, fun b o h => by simp at h, rfl, rfl, rfl, Nat.le_refl _, fun _ _ _ => rfl⟩
  refine (h W hi).mono ?_
  rintro e w' ⟨v', L', he, hi', rfl, rfl⟩
  exact ⟨he, hi'.os, hi'.tape, hi'.output, hi'.size, fun k hk => hi'.old k hk (by simp)⟩

theorem trodAll_stays (hl : laidOutB P = true) {W W' : World} (hb : Below W.heap.size W W') {sp : Nat → Bool} : ∀ {ts : List TypeId} {vs : List Value} {ds : List (DataW H)} {ps : List MemPlace},
    (∀ t ∈ ts, P.readableRec t = true ∧ t < P.types.size) → DataW.TrodAll enc P W 0 (fun _ => true) true ts vs ds ps → (∀ x ∈ ps, x.block < W.heap.size) → (∀ x ∈ ps, sp x.block = true) → DataW.TrodAll enc P W' 0 sp true ts vs ds ps
  | [], vs, ds, ps, _, h, _, _ => by
    obtain ⟨rfl, rfl, rfl⟩ := trodAll_nil h
    exact trodAll_mk0
  | t :: ts, vs, ds, ps, hr, h, hlt, hsp => by
    cases vs with
    | nil => cases ds <;> exact h.elim
    | cons v vs =>
      cases ds with
      | nil => exact h.elim
      | cons d ds =>
        obtain ⟨p, q, h1, h2, rfl⟩ := h
        have hrt := hr t (List.mem_cons_self ..)
        exact ⟨p, q, WideElems.Trod_stays hl hrt.1 hrt.2 h1 (fun x hx => hb.same (hlt x (List.mem_append_left _ hx))) (fun x hx => hsp x (List.mem_append_left _ hx)),
          trodAll_stays hl hb (fun t ht => hr t (List.mem_cons_of_mem _ ht)) h2 (fun x hx => hlt x (List.mem_append_right _ hx)) (fun x hx => hsp x (List.mem_append_right _ hx)), rfl⟩

theorem law_contract {C : Checked} {f : FuncId} {fn : Func} {s : ChangeSpec} {apart : Bool} {tb : TypeId} (hv : s.vars = []) (hlaid : laidOutB C.prog = true) (hread : fn.params.toList.all (fun t => C.prog.readableRec t && decide (t < C.prog.types.size)) = true)
    (hres : fn.resultTypes = #[tb]) (htb : C.prog.underlying tb = some .bool)
    (hspec : ∀ ds : List (DataW H), ds.length = fn.params.toList.length → s.fn H ds = { results := [.lit (.bool true)], args := ds, vars := [] })
    {W : World} {args : Array Value} {ds gs : List (DataW H)} {before : List MemPlace} (hW : DataW.Whole enc C.prog fn.params.toList s.vars apart W args.toList ds gs before)
    (hcall : ∀ p, DataW.TrodAll enc C.prog W 0 (fun _ => true) true fn.params.toList args.toList ds p → Calls C.prog f args W fun e W' => e = .returned (.bool true) ∧ Below W.heap.size W W') :
    Calls C.prog f args W fun e W' => ∃ v, e = .returned v ∧ s.post enc C.prog fn apart true false false W args v W' := by
  have hW' := hW
  obtain ⟨p, q, hA, hV, rfl, hfz, hnd⟩ := hW
  rw [hv] at hV
  obtain ⟨rfl, rfl⟩ := trodVars_none hV
  simp only [List.append_nil] at hW' hfz hnd
  have hlen : ds.length = fn.params.toList.length := (trodAll_length hA).2
  have hlt : ∀ x ∈ p, x.block < W.heap.size := fun x hx => hW'.lt x hx
  have hread' : ∀ t ∈ fn.params.toList, C.prog.readableRec t = true ∧ t < C.prog.types.size := fun t ht => by
    have := List.all_eq_true.1 hread t ht
    simpa using this
  refine (hcall p hA).mono fun e W' ⟨he, hb⟩ => ?_
  subst he
  have e1 : s.fn H (ds ++ []) = { results := [.lit (.bool true)], args := ds, vars := [] } := by rw [List.append_nil, hspec ds hlen]
  have hok : ∀ (j : Nat) (t : TypeId) (r : Value), fn.resultTypes[j]? = some t → ((Value.bool true).resultList fn.resultTypes.size)[j]? = some r → Value.okWide C.prog W' .any 0 t r := ok_one hres rfl (okWide_bool_mk htb _)
  have hr0 : ∀ (b : Nat) (sp : Nat → Bool) (hd : Bool), DataW.TrodAll enc C.prog W' b sp hd fn.resultTypes.toList ((Value.bool true).resultList fn.resultTypes.size) (s.fn H (ds ++ [])).results [] := fun b sp hd => by
    rw [e1, hres]
    exact trodAll_cons_mk (shut_bool htb _) trodAll_mk0
  have ha0 : ∀ sp : Nat → Bool, (∀ x ∈ p, sp x.block = true) → DataW.TrodAll enc C.prog W' 0 sp true fn.params.toList args.toList (s.fn H (ds ++ [])).args p := fun sp hsp => by
    rw [e1]
    exact trodAll_stays hlaid hb hread' hA hlt hsp
  have hold : ∀ x ∈ p, (fun b => decide (b < W.heap.size)) x.block = true := fun x hx => by simpa using hlt x hx
  have hv0 : ∀ sp : Nat → Bool, DataW.TrodVars enc C.prog W' sp s.vars (s.fn H (ds ++ [])).vars [] := fun sp => by rw [hv, e1]; rfl
  refine ⟨_, rfl, ds, [], p, [], p, [], by simpa using hW', hr0 _ _ _, ha0 _ hold, hv0 _, World.keptBut_mono (fun x hx => ⟨hx, ?_⟩) (hb.frame (· ∈ p)), fun _ => ?_⟩
  · simpa using hx
  · obtain ⟨_, _, _, _, _, hz, hn⟩ := hW'
    refine ⟨hok, _, _, ([] ++ p) ++ [], ⟨[] ++ p, [], trodAll_append (ha0 _ (fun _ _ => rfl)) (hr0 _ _ _), hv0 _, rfl, ?_, ?_⟩, ?_⟩
    · intro b off hp
      have hin : MemPlace.cell b off ∈ p := by simpa using hp
      rw [hb.frozen (hlt _ hin)]
      exact hz b off hin
    · intro ha
      have := hn ha
      simpa using this
    · intro x hx _
      simpa using hx

end
end Go.SX
set_option linter.unusedVariables false
set_option linter.unusedSimpArgs false
/-! '==' of structs and arrays of whole numbers, bools and strings, to whatever depth. -/
namespace Go.SX
open Go.RowKit
inductive FK where
  | b | i (k : IntKind) | s
  deriving DecidableEq
def okV : FK → Value → Bool
  | .b, .bool _ => true
  | .i k, .int k' n => decide (k' = k) && (Lit.int k n).wf
  | .s, .string s => decide (s.size ≤ maxLen)
  | _, _ => false
def litV : Value → Lit
  | .bool b => .bool b
  | .int k n => .int k n
  | .string s => .string s.data.toList
  | _ => .nil
def okVs : List FK → List Value → Bool
  | [], [] => true
  | k :: ks, v :: vs => okV k v && okVs ks vs
  | _, _ => false
theorem okVs_len : ∀ {ks : List FK} {vs : List Value}, okVs ks vs = true → vs.length = ks.length
  | [], [], _ => rfl
  | k :: ks, v :: vs, h => by
    simp only [okVs, Bool.and_eq_true] at h
    simp [okVs_len h.2]
theorem okVs_app : ∀ {ks ls : List FK} {vs : List Value}, okVs (ks ++ ls) vs = true → okVs ks (vs.take ks.length) = true ∧ okVs ls (vs.drop ks.length) = true
  | [], ls, vs, h => by simpa [okVs] using h
  | k :: ks, ls, v :: vs, h => by
    simp only [List.cons_append, okVs, Bool.and_eq_true] at h
    obtain ⟨h1, h2⟩ := okVs_app h.2
    simp [okVs, h.1, h1, h2]
def fieldsK {F : Type} (nm : F → Bool) (ty off : F → Nat) (g : Nat → Option (List FK)) (co : Nat → Nat) : List F → Nat → Option (List FK)
  | [], _ => some []
  | f :: fs, o => if nm f && off f == o then match g (ty f) with
      | some ks => if ks.length = co (ty f) then (fieldsK nm ty off g co fs (o + ks.length)).map (ks ++ ·) else none
      | none => none
    else none
def flatK (P : Program) : Nat → TypeId → Option (List FK)
  | 0, _ => none
  | d + 1, t => match P.underlying t with
    | some .bool => some [.b]
    | some (.int q) => some [.i q]
    | some .string => some [.s]
    | some (.array n e) => match flatK P d e with
      | some ks => if ks.length = P.cellsOf e ∧ P.cellsOf t = n * ks.length then some (List.replicate n ks).flatten else none
      | none => none
    | some (.struct fs) => match fieldsK (fun f => f.name != "_") (·.type) (·.offset) (flatK P d) P.cellsOf fs.toList 0 with
      | some ks => if ks.length = P.cellsOf t then some ks else none
      | none => none
    | _ => none
theorem fieldsK_all {F : Type} {nm : F → Bool} {ty off : F → Nat} {g : Nat → Option (List FK)} {co : Nat → Nat} : ∀ {fs : List F} {o : Nat} {ks : List FK}, fieldsK nm ty off g co fs o = some ks → fs.all nm = true
  | [], _, _, _ => rfl
  | f :: fs, o, ks, h => by
    simp only [fieldsK] at h
    split at h <;> try (cases h; done)
    rename_i hn
    split at h <;> try (cases h; done)
    split at h <;> try (cases h; done)
    obtain ⟨l, hl, _⟩ := Option.map_eq_some_iff.1 h
    simp only [Bool.and_eq_true] at hn
    simp [hn.1, fieldsK_all hl]
theorem fieldsK_lits {F : Type} {nm : F → Bool} {ty off : F → Nat} {g : Nat → Option (List FK)} {co : Nat → Nat} {kl : Nat → List Value → Option (List Lit)} (hg : ∀ t ks vs, g t = some ks → okVs ks vs = true → kl t vs = some (vs.map litV)) {cs : List Value} :
    ∀ {fs : List F} {o : Nat} {ks : List FK}, fieldsK nm ty off g co fs o = some ks → okVs ks (cs.drop o) = true →
      ∃ ls, fs.mapM (fun f => kl (ty f) ((cs.drop (off f)).take (co (ty f)))) = some ls ∧ ls.flatten = (cs.drop o).map litV
  | [], o, ks, h, hk => by
    simp only [fieldsK, Option.some.injEq] at h
    subst h
    refine ⟨[], rfl, ?_⟩
    have := okVs_len hk
    rw [List.eq_nil_of_length_eq_zero this]
    rfl
  | f :: fs, o, ks, h, hk => by
    simp only [fieldsK] at h
    split at h <;> try (cases h; done)
    rename_i hn
    simp only [Bool.and_eq_true, beq_iff_eq] at hn
    split at h <;> try (cases h; done)
    rename_i k1 hg1
    split at h <;> try (cases h; done)
    rename_i hlen
    obtain ⟨l, hl, rfl⟩ := Option.map_eq_some_iff.1 h
    obtain ⟨h1, h2⟩ := okVs_app hk
    rw [List.drop_drop] at h2
    obtain ⟨ls, hm, hf⟩ := fieldsK_lits hg hl h2
    refine ⟨((cs.drop o).take k1.length).map litV :: ls, ?_, ?_⟩
    · rw [List.mapM_cons, hn.2, ← hlen, hg _ _ _ hg1 h1, hm]
      rfl
    · rw [List.flatten_cons, hf, ← List.map_append, ← List.drop_drop, List.take_append_drop]
theorem flat_rep {ks : List FK} : ∀ {n : Nat} {vs : List Value}, okVs (List.replicate n ks).flatten vs = true → vs.length = n * ks.length ∧ ∀ i, i < n → okVs ks ((vs.drop (i * ks.length)).take ks.length) = true
  | 0, vs, h => by
    have := okVs_len h
    exact ⟨by simpa using this, fun i hi => absurd hi (by omega)⟩
  | n + 1, vs, h => by
    rw [List.replicate_succ, List.flatten_cons] at h
    obtain ⟨h1, h2⟩ := okVs_app h
    obtain ⟨h3, h4⟩ := flat_rep h2
    have h5 := okVs_len h1
    refine ⟨?_, fun i hi => ?_⟩
    · rw [List.length_drop] at h3
      rw [List.length_take] at h5
      have := Nat.add_one_mul n ks.length
      omega
    · cases i with
      | zero => simpa using h1
      | succ i =>
        have := h4 i (by omega)
        rw [List.drop_drop] at this
        rwa [Nat.succ_mul, Nat.add_comm]
theorem flatten_parts {m : Nat} : ∀ (n : Nat) (vs : List Value), vs.length = n * m → ((List.range n).map fun i => ((vs.drop (i * m)).take m).map litV).flatten = vs.map litV
  | 0, vs, h => by
    have : vs = [] := List.eq_nil_of_length_eq_zero (by simpa using h)
    subst this; rfl
  | n + 1, vs, h => by
    have hs := Nat.add_one_mul n m
    rw [List.range_succ_eq_map, List.map_cons, List.map_map, List.flatten_cons]
    have ih := flatten_parts (m := m) n (vs.drop m) (by rw [List.length_drop]; omega)
    have : ((fun i => ((vs.drop (i * m)).take m).map litV) ∘ Nat.succ) = fun i => (((vs.drop m).drop (i * m)).take m).map litV := by
      funext i
      simp only [Function.comp, List.drop_drop, Nat.succ_mul, Nat.add_comm]
    rw [this, ih, Nat.zero_mul, List.drop_zero, ← List.map_append, List.take_append_drop]
theorem keyLits_flat {P : Program} : ∀ (d : Nat) (t : TypeId) (ks : List FK) (vs : List Value), flatK P d t = some ks → okVs ks vs = true → P.keyLits d t vs = some (vs.map litV)
  | 0, _, _, _, h, _ => by cases h
  | d + 1, t, ks, vs, h, hv => by
    have ih := keyLits_flat (P := P) d
    unfold flatK at h
    unfold Program.keyLits
    split at h
    · rename_i hu
      cases h
      rw [hu]
      match vs, hv with
      | [.bool b], _ => rfl
    · rename_i q hu
      cases h
      rw [hu]
      match vs, hv with
      | [.int q' n], hv =>
        simp only [okVs, okV, Bool.and_true, Bool.and_eq_true, decide_eq_true_eq] at hv
        obtain ⟨rfl, hw⟩ := hv
        simp [hw, litV]
      | .int _ _ :: _ :: _, hv => simp [okVs] at hv
    · rename_i hu
      cases h
      rw [hu]
      match vs, hv with
      | [.string s], hv =>
        simp only [okVs, okV, Bool.and_true, decide_eq_true_eq] at hv
        simp [hv, litV]
      | .string _ :: _ :: _, hv => simp [okVs] at hv
    · rename_i n e hu
      split at h <;> try (cases h; done)
      rename_i k1 hk1
      split at h <;> try (cases h; done)
      rename_i hc
      cases h
      obtain ⟨h1, h2⟩ := flat_rep hv
      rw [hu]
      simp only [hc.2, h1, if_true]
      rw [mapM_range (g := (List.range n).map fun i => ((vs.drop (i * k1.length)).take k1.length).map litV) (by simp) (fun i hi => by
        rw [← hc.1, ih _ _ _ hk1 (h2 i hi), List.getElem?_map, List.getElem?_range hi]; rfl)]
      rw [Option.map_some, flatten_parts n vs h1]
    · rename_i fs hu
      split at h <;> try (cases h; done)
      rename_i k1 hk1
      split at h <;> try (cases h; done)
      rename_i hc
      cases h
      rw [hu]
      have hall := fieldsK_all hk1
      obtain ⟨ls, hm, hf⟩ := fieldsK_lits (kl := P.keyLits d) (cs := vs) (fun t ks vs h1 h2 => ih t ks vs h1 h2) hk1 (by simpa using hv)
      have hl := okVs_len hv
      have hall' : fs.all (fun f => f.name != "_") = true := by rw [← Array.all_toList]; exact hall
      simp only [hl, hc, hall', and_self, if_true]
      rw [hm, Option.map_some, hf]
      rfl
    · cases h

/-- A type of which '==' compares such. -/
structure EqT (P : Program) (t : TypeId) (ks : List FK) : Prop where
  key : P.keyTypeAt 9 t = true
  grd : P.eqGuardType P.depth t = false
  flat : flatK P 9 t = some ks
  shape : (match P.underlying t with | some (.struct _) | some (.array _ _) => true | _ => false) = true
  size : P.cellsOf t = ks.length
theorem aggEq_of {P : Program} {t : TypeId} {ks : List FK} {a b : Array Value} {K : Bool → Prop} (h : EqT P t ks) (ha : okVs ks a.toList = true) (hb : okVs ks b.toList = true)
    (hK : ∀ r : Bool, (r = true ↔ a.toList.map litV = b.toList.map litV) → K r) : aggEq P t a b K := by
  have fm : ∀ c : Array Value, okVs ks c.toList = true → (Value.agg c).formed P t = true := fun c hc => by
    have hs := h.shape
    have := okVs_len hc
    unfold Value.formed
    split at hs <;> try (cases hs; done)
    all_goals
      rename_i hu
      simp only [hu]
      rw [h.size, ← this]
      simp
  exact ⟨h.key, h.grd, fm a ha, fm b hb, _, _, keyLits_flat 9 t ks _ h.flat ha, keyLits_flat 9 t ks _ h.flat hb, hK⟩
theorem wf_u8 (n : Int) : (Lit.int .u8 n).wf = decide (0 ≤ n ∧ n ≤ 255) := by
  show (decide _ && decide _) = _
  rw [Bool.decide_and]; rfl
theorem wf_u16 (n : Int) : (Lit.int .u16 n).wf = decide (0 ≤ n ∧ n ≤ 65535) := by
  show (decide _ && decide _) = _
  rw [Bool.decide_and]; rfl
end Go.SX
set_option linter.unusedVariables false
set_option linter.unusedSimpArgs false
/-! Tables that lie in the program's variables. -/
namespace Go.SX
open Go.ChangeShapes Go.WideShapes Go.ChangeAt Go.RowKit
section
variable {H : Type} {enc : TypeId × Value → H} {P : Program} {w : World} {base : Nat} {spare : Nat → Bool} {held : Bool} {fuel : Nat} {cs : List Value} {x : DataW H × List MemPlace}
end

end Go.SX
set_option linter.unusedVariables false
set_option linter.unusedSimpArgs false
/-! What is handed in, of types of whole numbers, bools and strings (structs and arrays of such, slices of these). -/
namespace Go.SX
open Go.ChangeShapes Go.WideShapes Go.ChangeAt Go.RowKit
section
variable {H : Type} {enc : TypeId × Value → H} {P : Program}
/-- What lies in one element: its cells. -/
def RS {α : Type} (f : α → List Value) : (Addr → Value → Prop) → Addr → α → Prop := fun C a x => ∀ i u, (f x)[i]? = some u → C (a.add i) u
abbrev SlS {α : Type} (sz : Nat) (f : α → List Value) := Sl sz (RS f)
end
end Go.SX
namespace Go.SX
open Go.ChangeShapes Go.WideShapes Go.ChangeAt Go.RowKit
theorem laid_vars {P : Program} {W : World} : ∀ {laid : List (String × DataW Unit)} {ps : List MemPlace} {n : String} {d : DataW Unit}, DataW.LaidVars P W laid ps → (n, d) ∈ laid → ∃ (g : Nat) (t : TypeId) (cs : Array Value) (f : Nat) (p : List MemPlace),
    P.globalNamed n = some g ∧ (P.globals[g]?).map (·.type) = some t ∧ W.var? P n = some cs ∧ DataW.trod (fun _ => ()) P W 0 (fun _ => true) false f t cs.toList = some (d, p)
  | [], _, _, _, _, h => by cases h
  | (m, e) :: r, ps, n, d, hl, h => by
    obtain ⟨g, t, cs, f, p, q, h1, h2, h3, h4, h5, _⟩ := hl
    rcases List.mem_cons.1 h with h | h
    · cases h; exact ⟨g, t, cs, f, p, h1, h2, h3, h4⟩
    · exact laid_vars h5 h
theorem laid_var {P : Program} {W : World} {laid : List (String × DataW Unit)} {n : String} {d : DataW Unit} {g : Nat} {t : TypeId} (hp : (laid.all fun x => x.2.handleName?.isNone) = true) (hL : laidMetH P laid W) (hm : (n, d) ∈ laid)
    (hg : P.globalNamed n = some g) (ht : (P.globals[g]?).map (·.type) = some t) : ∃ (cs : List Value) (f : Nat) (p : List MemPlace), DataW.trod (fun _ => ()) P W 0 (fun _ => true) false f t cs = some (d, p) ∧ ∀ j, W.cell? ⟨g, j, none⟩ = cs[j]? := by
  rw [MakeChecks.laidMetH_plain _ _ _ hp] at hL
  obtain ⟨ps, h, _⟩ := hL
  obtain ⟨g', t', cs, f, p, h1, h2, h3, h4⟩ := laid_vars h hm
  obtain rfl := Option.some.inj (hg.symm.trans h1)
  obtain rfl := Option.some.inj (ht.symm.trans h2)
  exact ⟨cs.toList, f, p, h4, fun j => by rw [World.var?_cell h1 h3 j, Array.getElem?_toList]⟩
end Go.SX
set_option linter.unusedVariables false
set_option linter.unusedSimpArgs false
/-! Rows of structs: a slice of one's own whose elements are lists of cells. -/
namespace Go.SX
open Go.RowKit
section
variable {Γ : Ctx} {L : Hp} {α : Type} {f : α → List Value} {e sz : Nat}
theorem flat_len (hf : ∀ x, (f x).length = sz) : ∀ l : List α, (l.flatMap f).length = l.length * sz
  | [] => by simp
  | x :: l => by rw [List.flatMap_cons, List.length_append, hf, flat_len hf l, List.length_cons, Nat.add_one_mul]; omega
theorem flat_at (hf : ∀ x, (f x).length = sz) : ∀ {l : List α} {j k : Nat} {x : α}, l[j]? = some x → k < sz → (l.flatMap f)[j * sz + k]? = (f x)[k]?
  | [], j, k, x, h, _ => by simp at h
  | y :: l, 0, k, x, h, hk => by
    simp at h; subst h
    rw [List.flatMap_cons, Nat.zero_mul, Nat.zero_add, List.getElem?_append_left (by rw [hf]; exact hk)]
  | y :: l, j + 1, k, x, h, hk => by
    rw [List.flatMap_cons, List.getElem?_append_right (by rw [hf, Nat.add_one_mul]; omega), hf, Nat.add_one_mul, show j * sz + sz + k - sz = j * sz + k by omega]
    exact flat_at hf (by simpa using h) hk
theorem flat_split (hf : ∀ x, (f x).length = sz) : ∀ {l : List α} {j : Nat} {x : α}, l[j]? = some x → ∃ A B, l.flatMap f = A ++ f x ++ B ∧ A.length = j * sz ∧ ∀ y, (l.set j y).flatMap f = A ++ f y ++ B
  | [], j, x, h => by simp at h
  | z :: l, 0, x, h => by
    simp at h; subst h
    exact ⟨[], l.flatMap f, by simp, by simp, fun y => by simp⟩
  | z :: l, j + 1, x, h => by
    obtain ⟨A, B, h1, h2, h3⟩ := flat_split hf (l := l) (j := j) (x := x) (by simpa using h)
    exact ⟨f z ++ A, B, by rw [List.flatMap_cons, h1]; simp, by rw [List.length_append, hf, h2, Nat.add_one_mul]; omega, fun y => by rw [List.set_cons_succ, List.flatMap_cons, h3]; simp⟩
abbrev RowL (f : α → List Value) (e sz : Nat) (v : Value) (l : List α) (s : Slot) : Prop := Row e sz v l.length (l.flatMap f) s
theorem RowL.nil (f : α → List Value) (e sz : Nat) : RowL f e sz (.slice none 0 0) [] none := Row.nil e sz
theorem RowL.sl {v : Value} {l : List α} {s : Slot} {i : Nat} (hf : ∀ x, (f x).length = sz) (h : RowL f e sz v l s) (hL : L[i]? = some s) : SlS sz f (Cell Γ L) v l :=
  Row.sl h hL rfl fun C j x a hj hk => fun k u hu => by
    have hks : k < sz := by rw [← hf x]; exact (List.getElem?_eq_some_iff.1 hu).1
    exact hk k hks u (by rw [flat_at hf hj hks]; exact hu)
/-- append(v, x). -/
theorem YAppend.rowL {ty by_ i b : Nat} {z : List Value} {v : Value} {l : List α} {x : α} {s : Slot} {fr : Nat × Nat} {K : Value → Hp → Prop}
    (hel : elS Γ.P ty = some (e, sz, by_)) (hz : zr Γ.P e = some z) (hzl : z.length = sz) (hf : (f x).length = sz) (h1 : oneB (f x) = true) (hL : L[i]? = some s) (hr : RowL f e sz v l s)
    (hb : (l.length + 1) * by_ ≤ 140737488355328) (hb0 : 0 < by_) (hK : ∀ v' s', RowL f e sz v' (l ++ [x]) s' → K v' (some (b, .cells (f x).toArray e fr) :: L.set i s')) :
    YAppend Γ ty ty v (.slice (some ⟨b, 0, none⟩) 1 1) (some (b, .cells (f x).toArray e fr) :: L) K := by
  refine YAppend.row (i := i + 1) (ys := f x) (m := 1) hel hz hzl (by simpa using hL) hr (SrcV.lit (ys := f x) (by rw [hel]; rfl) (by rw [hf]; omega) h1) (by rw [hf]; omega) hb hb0 fun v' s' hr' => ?_
  have := hK v' s' (by
    show Row e sz v' (l ++ [x]).length ((l ++ [x]).flatMap f) s'
    rw [List.flatMap_append, List.length_append]
    simpa using hr')
  simpa using this
theorem RowL.form {v : Value} {l : List α} {s : Slot} (h : RowL f e sz v l s) (hl : 0 < l.length) :
    ∃ g cap junk, v = .slice (some ⟨g, 0, none⟩) l.length cap ∧ s = some (g, .cells (l.flatMap f ++ junk).toArray e (0, 0)) ∧ (l.length ≤ cap ∧ cap ≤ 9223372036854775807) ∧ (l.flatMap f ++ junk).length = cap * sz := by
  obtain ⟨_, ⟨_, h0, _⟩ | ⟨g, cap, junk, h1, h2, h3, h4⟩⟩ := h
  · omega
  · exact ⟨g, cap, junk, h1, h2, h3, h4⟩
theorem RowL.mk {l : List α} {g cap : Nat} {junk : List Value} (hf : ∀ x, (f x).length = sz) (hc : l.length ≤ cap ∧ cap ≤ 9223372036854775807) (hl : (l.flatMap f ++ junk).length = cap * sz) :
    RowL f e sz (.slice (some ⟨g, 0, none⟩) l.length cap) l (some (g, .cells (l.flatMap f ++ junk).toArray e (0, 0))) :=
  ⟨flat_len hf l, .inr ⟨g, cap, junk, rfl, rfl, hc, hl⟩⟩
/-- A store into an element, or a part of it. -/
theorem setN_flat (hf : ∀ x, (f x).length = sz) {l : List α} {junk : List Value} {j o : Nat} {x y : α} {vs : List Value} (hj : l[j]? = some x) (hs : setN (f x) o vs = f y) (ho : o + vs.length ≤ sz) :
    setN (l.flatMap f ++ junk) (j * sz + o) vs = (l.set j y).flatMap f ++ junk := by
  obtain ⟨A, B, h1, h2, h3⟩ := flat_split hf hj
  have hx := hf x
  obtain ⟨C, D, hcd, hC⟩ : ∃ C D, f x = C ++ D ∧ C.length = o := ⟨(f x).take o, (f x).drop o, (List.take_append_drop ..).symm, by rw [List.length_take]; omega⟩
  have hD : vs.length ≤ D.length := by have := congrArg List.length hcd; rw [List.length_append] at this; omega
  have e1 : setN (f x) o vs = C ++ vs ++ D.drop vs.length := by rw [hcd, ← hC, setN_app _ _ _ hD]
  rw [h1, h3, ← hs, e1, hcd]
  have e2 : A ++ (C ++ D) ++ B ++ junk = (A ++ C) ++ (D ++ (B ++ junk)) := by simp
  rw [e2, ← h2, ← hC, ← List.length_append, setN_app _ _ _ (by rw [List.length_append]; omega), List.drop_append_of_le_length hD]
  simp
end
end Go.SX
set_option linter.unusedVariables false
set_option linter.unusedSimpArgs false
/-! append to a row of which an elder slice still reads the head. -/
namespace Go.SX
open Go.RowKit
def apartS (s t : Slot) : Prop := ∀ b (o o' : Obj), s = some (b, o) → t = some (b, o') → False
theorem inj_pairwise {L : Hp} : (∀ (i j b : Nat) (o o' : Obj), L[i]? = some (some (b, o)) → L[j]? = some (some (b, o')) → i = j) ↔ L.Pairwise apartS := by
  rw [List.pairwise_iff_getElem]
  constructor
  · intro h i j hi hj hij b o o' h1 h2
    have := h i j b o o' (by rw [List.getElem?_eq_getElem hi, h1]) (by rw [List.getElem?_eq_getElem hj, h2])
    omega
  · intro h i j b o o' h1 h2
    obtain ⟨hi, e1⟩ := List.getElem?_eq_some_iff.1 h1
    obtain ⟨hj, e2⟩ := List.getElem?_eq_some_iff.1 h2
    rcases Nat.lt_trichotomy i j with hlt | rfl | hlt
    · exact (h i j hi hj hlt b o o' e1 e2).elim
    · rfl
    · exact (h j i hj hi hlt b o' o e2 e1).elim
theorem Less.of_pairwise {L L' : Hp} (h : L.Pairwise apartS → L'.Pairwise apartS) (hm : ∀ s, s ∈ L' → s ∈ L) : Less L L' := fun Γ w hi =>
  { hi with
    inj := inj_pairwise.2 (h (inj_pairwise.1 hi.inj))
    blk := fun b o hb => hi.blk b o (hm _ hb)
    src := fun b o hb => hi.src b o (hm _ hb) }
theorem Less.perm {L L' : Hp} (h : L.Perm L') : Less L L' := .of_pairwise (fun hp => (h.pairwise_iff (fun {a b} hab b' o o' h1 h2 => hab b' o' o h2 h1)).1 hp) fun s hs => h.mem_iff.2 hs
theorem Less.sublist {L L' : Hp} (h : L'.Sublist L) : Less L L' := .of_pairwise (fun hp => hp.sublist h) fun s hs => h.subset hs

section
variable {Γ : Ctx} {α : Type} {f : α → List Value}
/-- An elder slice vb reads lb: at the head of the row (v, xs), or in the block t that the row has left. -/
def View (f : α → List Value) (e : Nat) (vb : Value) (lb : List α) (v : Value) (t : Slot) (n : Nat) (xs : List Value) : Prop :=
  (∀ b o, t = some (b, o) → ∃ cs fr, o = Obj.cells cs e fr) ∧ (lb = [] ∨ ∃ g cb, vb = .slice (some ⟨g, 0, none⟩) lb.length cb ∧ lb.length ≤ cb ∧
    ((∃ cap, v = .slice (some ⟨g, 0, none⟩) n cap ∧ lb.flatMap f <+: xs) ∨ ∃ (cs : List Value) (ty : TypeId) (fr : Nat × Nat), t = some (g, .cells cs.toArray ty fr) ∧ lb.flatMap f <+: cs))
theorem set_mid (P L0 : Hp) (s t x : Slot) : (P ++ s :: t :: L0).set P.length x = P ++ x :: t :: L0 := by simp
theorem YAppend.rowV {ty tx e : TypeId} {sz by_ : Nat} {z : List Value} {v x vb : Value} {lb : List α} {n m : Nat} {xs ys : List Value} {P L0 : Hp} {s t : Slot} {K : Value → Hp → Prop}
    (hel : elS Γ.P ty = some (e, sz, by_)) (hz : zr Γ.P e = some z) (hzl : z.length = sz) (hr : Row e sz v n xs s) (hV : View f e vb lb v t n xs) (hsrc : SrcV Γ (P ++ s :: t :: L0) sz tx x m ys) (hyl : ys.length = m * sz) (hm : 0 < m)
    (hb : (n + m) * by_ ≤ 140737488355328) (hb0 : 0 < by_) (hK : ∀ v' s' t', Row e sz v' (n + m) (xs ++ ys) s' → View f e vb lb v' t' (n + m) (xs ++ ys) → K v' (P ++ s' :: t' :: L0)) : YAppend Γ ty tx v x (P ++ s :: t :: L0) K := by
  have hr0 := hr
  have hL : (P ++ s :: t :: L0)[P.length]? = some s := by simp
  obtain ⟨hl, hform⟩ := hr
  have hlen : (xs ++ ys).length = (n + m) * sz := by rw [List.length_append, hl, hyl, Nat.add_mul]
  have mid : ∀ s', Less (s' :: (P ++ s :: t :: L0)) (P ++ s' :: s :: t :: L0) := fun s' => Less.perm List.perm_middle.symm
  have dropS : ∀ s', Less (P ++ s' :: s :: t :: L0) (P ++ s' :: t :: L0) := fun s' => Less.sublist (List.Sublist.append_left (.cons_cons _ (.cons _ (List.Sublist.refl _))) _)
  have dropT : ∀ s', Less (P ++ s' :: s :: t :: L0) (P ++ s' :: s :: L0) := fun s' => Less.sublist (List.Sublist.append_left (.cons_cons _ (.cons_cons _ (.cons _ (List.Sublist.refl _)))) _)
  intro w hi
  obtain ⟨hVt, hV⟩ := hV
  rcases hform with ⟨rfl, rfl, rfl⟩ | ⟨g, cap, junk, rfl, rfl, hc, hcl⟩
  · have hxs : xs = [] := List.eq_nil_of_length_eq_zero (by simpa using hl)
    subst hxs
    have := YAppend.both (Γ := Γ) (L := P ++ none :: t :: L0) (ty := ty) (tx := tx) (x := x) (olds := []) (base := none) (n := 0) (cap := 0) (m := m) (ys := ys) (K := fun v' L' => ∃ g cap' junk, v' = .slice (some ⟨g, 0, none⟩) (0 + m) cap' ∧ (0 + m ≤ cap' ∧ cap' ≤ 9223372036854775807) ∧ junk.length = (cap' - (0 + m)) * sz ∧ L' = some (g, .cells ([] ++ ys ++ junk).toArray e (0, 0)) :: (P ++ none :: t :: L0)) hel hz hzl hsrc (by simp) (by simp) (fun _ => rfl) hb hb0 (fun h => absurd h (by omega)) (fun _ g cap' junk h1 hM h2 => ⟨g, cap', junk, rfl, ⟨h1, hM⟩, h2, rfl⟩) w hi
    obtain ⟨v, w', L', h1, h2, g, cap', junk, rfl, h3, h4, rfl⟩ := this
    refine ⟨_, w', _, h1, dropS _ _ _ (mid _ _ _ h2), hK _ _ _ ⟨hlen, .inr ⟨g, cap', junk, rfl, rfl, h3, ?_⟩⟩ ?_⟩
    · rw [List.length_append, hlen, h4, ← Nat.add_mul]
      congr 1
      omega
    · refine ⟨hVt, ?_⟩
      rcases hV with h | ⟨gv, cb, e1, e2, ⟨c3, e3, _⟩ | h⟩
      · exact .inl h
      · cases e3
      · exact .inr ⟨gv, cb, e1, e2, .inr h⟩
  · have hcell : ∀ j u, xs[j]? = some u → ∃ a, (some ⟨g, 0, none⟩ : Option Addr) = some a ∧ Cell Γ (P ++ some (g, .cells (xs ++ junk).toArray e (0, 0)) :: t :: L0) (a.add j) u := fun j u hj => by
      obtain ⟨a, c, he, _, hc⟩ := hr0.cell (Γ := Γ) hL hj
      injection he with e1
      exact ⟨a, e1, hc⟩
    have hjl : junk.length = (cap - n) * sz := by
      rw [List.length_append, hl] at hcl
      have : cap * sz = n * sz + (cap - n) * sz := by rw [← Nat.add_mul]; congr 1; omega
      omega
    have := YAppend.both (Γ := Γ) (L := P ++ some (g, .cells (xs ++ junk).toArray e (0, 0)) :: t :: L0) (ty := ty) (tx := tx) (x := x) (olds := xs) (base := some ⟨g, 0, none⟩) (cap := cap) (n := n) (m := m) (ys := ys)
      (K := fun v' L' => (n + m ≤ cap ∧ v' = .slice (some ⟨g, 0, none⟩) (n + m) cap ∧ L' = (P ++ some (g, .cells (xs ++ junk).toArray e (0, 0)) :: t :: L0).set P.length (some (g, .cells (setN (xs ++ junk) (0 + n * sz) ys).toArray e (0, 0)))) ∨
        ∃ g' cap' junk', v' = .slice (some ⟨g', 0, none⟩) (n + m) cap' ∧ (n + m ≤ cap' ∧ cap' ≤ 9223372036854775807) ∧ junk'.length = (cap' - (n + m)) * sz ∧ L' = some (g', .cells (xs ++ ys ++ junk').toArray e (0, 0)) :: (P ++ some (g, .cells (xs ++ junk).toArray e (0, 0)) :: t :: L0))
      hel hz hzl hsrc hl hcell (fun h => by cases h) hb hb0
      (fun h => .inl ⟨⟨g, 0, none⟩, rfl, rfl, P.length, xs ++ junk, e, (0, 0), hL, by
        simp only [Nat.zero_add]
        rw [hcl, hyl, ← Nat.add_mul]
        exact Nat.mul_le_mul_right _ h, .inr (Nat.zero_le _), .inl ⟨h, rfl, rfl⟩⟩)
      (fun _ g' cap' junk' h1 hM h2 => .inr ⟨g', cap', junk', rfl, ⟨h1, hM⟩, h2, rfl⟩) w hi
    obtain ⟨v, w', L', h1, h2, ⟨h3, rfl, rfl⟩ | ⟨g', cap', junk', rfl, h3, h4, rfl⟩⟩ := this
    · rw [set_mid] at h2
      refine ⟨_, w', _, h1, h2, hK _ _ _ ⟨hlen, .inr ⟨g, cap, junk.drop ys.length, rfl, ?_, ⟨h3, hc.2⟩, ?_⟩⟩ ?_⟩
      · have hset := setN_app ys xs junk (by
          rw [hyl, hjl]
          exact Nat.mul_le_mul_right _ (by omega))
        rw [hl] at hset
        rw [Nat.zero_add, hset]
      · rw [List.length_append, hlen, List.length_drop, hyl, hjl, ← Nat.sub_mul, ← Nat.add_mul]
        congr 1
        omega
      · refine ⟨hVt, ?_⟩
        rcases hV with h | ⟨gv, cb, e1, e2, ⟨c3, e3, e4⟩ | h⟩
        · exact .inl h
        · simp only [Value.slice.injEq, Option.some.injEq, Addr.mk.injEq, and_true, true_and] at e3
          obtain ⟨rfl, rfl⟩ := e3
          exact .inr ⟨_, cb, e1, e2, .inl ⟨_, rfl, e4.trans (List.prefix_append _ _)⟩⟩
        · exact .inr ⟨gv, cb, e1, e2, .inr h⟩
    · have hrow' : Row e sz (.slice (some ⟨g', 0, none⟩) (n + m) cap') (n + m) (xs ++ ys) (some (g', .cells (xs ++ ys ++ junk').toArray e (0, 0))) := ⟨hlen, .inr ⟨g', cap', junk', rfl, rfl, h3, by
        rw [List.length_append, hlen, h4, ← Nat.add_mul]
        congr 1
        omega⟩⟩
      have h5 := mid _ _ _ h2
      rcases hV with h | ⟨gv, cb, e1, e2, ⟨c3, e3, e4⟩ | h⟩
      · exact ⟨_, w', _, h1, dropS _ _ _ h5, hK _ _ _ hrow' ⟨hVt, .inl h⟩⟩
      · simp only [Value.slice.injEq, Option.some.injEq, Addr.mk.injEq, and_true, true_and] at e3
        obtain ⟨rfl, rfl⟩ := e3
        exact ⟨_, w', _, h1, dropT _ _ _ h5, hK _ _ _ hrow' ⟨fun b o h => by cases h; exact ⟨_, _, rfl⟩, .inr ⟨_, cb, e1, e2, .inr ⟨_, _, _, rfl, e4.trans (List.prefix_append _ _)⟩⟩⟩⟩
      · exact ⟨_, w', _, h1, dropS _ _ _ h5, hK _ _ _ hrow' ⟨hVt, .inr ⟨gv, cb, e1, e2, .inr h⟩⟩⟩
/-- At the start the row is the slice itself. -/
theorem View.self {e sz : Nat} {v : Value} {l : List α} {s : Slot} (h : RowL f e sz v l s) : View f e v l v none l.length (l.flatMap f) := by
  refine ⟨fun b o h => (by cases h), ?_⟩
  cases l with
  | nil => exact .inl rfl
  | cons x l =>
    obtain ⟨g, cap, junk, rfl, rfl, hc, _⟩ := RowL.form h (by simp)
    exact .inr ⟨g, cap, rfl, hc.1, .inl ⟨cap, rfl, List.prefix_refl _⟩⟩
theorem View.sl {e sz n : Nat} {v vb : Value} {lb : List α} {s t : Slot} {xs : List Value} {P L0 : Hp} (hf : ∀ x, (f x).length = sz) (h : View f e vb lb v t n xs) (hr : Row e sz v n xs s) (hvb : ∃ A c, vb = .slice A lb.length c ∧ lb.length ≤ c) : SlS sz f (Cell Γ (P ++ s :: t :: L0)) vb lb := by
  obtain ⟨A, c, rfl, hc⟩ := hvb
  refine ⟨A, c, rfl, hc, fun j x hj => ?_⟩
  obtain ⟨_, h⟩ := h
  rcases h with rfl | ⟨g, cb, e1, e2, h⟩
  · simp at hj
  cases e1
  refine ⟨_, rfl, fun i u hu => ?_⟩
  have hi : i < sz := by rw [← hf x]; exact (List.getElem?_eq_some_iff.1 hu).1
  have hflat : (lb.flatMap f)[j * sz + i]? = some u := by rw [flat_at hf hj hi]; exact hu
  have pre : ∀ {cs : List Value}, lb.flatMap f <+: cs → cs[j * sz + i]? = some u := fun {cs} hp => by
    obtain ⟨r, rfl⟩ := hp
    rw [List.getElem?_append_left (List.getElem?_eq_some_iff.1 hflat).1]; exact hflat
  rw [add_addS, Addr.add_lit, Nat.zero_add]
  rcases h with ⟨cap, rfl, hp⟩ | ⟨cs, ty, fr, rfl, hp⟩
  · obtain ⟨_, ⟨e3, _, _⟩ | ⟨g', cap', junk, e3, rfl, _, _⟩⟩ := hr
    · cases e3
    · cases e3
      refine Cell.at (xs := xs ++ junk) (t := e) (fr := (0, 0)) P.length (by simp) ?_
      exact pre (hp.trans (List.prefix_append _ _))
  · refine Cell.at (xs := cs) (t := ty) (fr := fr) (P.length + 1) (by simp) ?_
    exact pre hp
/-- append(v, x), x a literal at the head. -/
theorem YAppend.rowV1 {ty e sz by_ b : Nat} {z : List Value} {v vb : Value} {lb l : List α} {x : α} {p1 p2 s t : Slot} {L0 : Hp} {fr : Nat × Nat} {K : Value → Hp → Prop}
    (hel : elS Γ.P ty = some (e, sz, by_)) (hz : zr Γ.P e = some z) (hzl : z.length = sz) (hf : (f x).length = sz) (h1 : oneB (f x) = true) (hr : RowL f e sz v l s) (hV : View f e vb lb v t l.length (l.flatMap f))
    (hb : (l.length + 1) * by_ ≤ 140737488355328) (hb0 : 0 < by_)
    (hK : ∀ v' s' t', RowL f e sz v' (l ++ [x]) s' → View f e vb lb v' t' (l ++ [x]).length ((l ++ [x]).flatMap f) → K v' (some (b, .cells (f x).toArray e fr) :: p1 :: p2 :: s' :: t' :: L0)) :
    YAppend Γ ty ty v (.slice (some ⟨b, 0, none⟩) 1 1) (some (b, .cells (f x).toArray e fr) :: p1 :: p2 :: s :: t :: L0) K := by
  refine YAppend.rowV (P := [some (b, .cells (f x).toArray e fr), p1, p2]) (L0 := L0) (ys := f x) (m := 1) hel hz hzl hr hV (SrcV.lit (ys := f x) (by rw [hel]; rfl) (by rw [hf]; omega) h1) (by rw [hf]; omega) (by decide) hb hb0 fun v' s' t' hr' hV' => ?_
  have e1 : (l ++ [x]).flatMap f = l.flatMap f ++ f x := by rw [List.flatMap_append]; simp
  refine hK v' s' t' ?_ ?_
  · show Row e sz v' (l ++ [x]).length ((l ++ [x]).flatMap f) s'
    rw [e1, List.length_append]; exact hr'
  · rw [e1, List.length_append]; exact hV'
end
end Go.SX
set_option linter.unusedVariables false
set_option linter.unusedSimpArgs false
/-! copy(dst, src): cells, whole numbers, structs; cells that stay where a slot changes. -/
namespace Go.SX
open Go.RowKit Go.ChangeShapes Go.WideShapes Go.ChangeAt
section
variable {Γ : Ctx} {L : Hp}
theorem YCopy.cells {ty tx e : TypeId} {sz by_ b off dn dc m c i : Nat} {A : Option Addr} {src cs : List Value} {t' : TypeId} {fr : Nat × Nat} {K : Value → Hp → Prop}
    (hel : elS Γ.P ty = some (e, sz, by_)) (hsl : src.length = m * sz) (hsrc : ∀ j u, src[j]? = some u → ∃ a, A = some a ∧ Cell Γ L (a.add j) u) (h1 : oneB src = true)
    (hL : L[i]? = some (some (b, .cells cs.toArray t' fr))) (hfit : off + min m dn * sz ≤ cs.length) (hfr : off + min m dn * sz ≤ fr.1 ∨ fr.2 ≤ off)
    (hk : K (.int .i64 ((min m dn : Nat) : Int)) (L.set i (some (b, .cells (setN cs off (src.take (min m dn * sz))).toArray t' fr)))) :
    YCopy Γ ty tx (.slice (some ⟨b, off, none⟩) dn dc) (.slice A m c) L K := by
  intro w hi
  obtain ⟨hu, i0, hi1, hi2, hi3⟩ := elS_some hel
  have hblk := hi.blk _ _ (List.mem_of_getElem? hL)
  have hlen : (src.take (min m dn * sz)).length = min m dn * sz := by
    rw [List.length_take, hsl]
    exact Nat.min_eq_left (Nat.mul_le_mul_right _ (Nat.min_le_left _ _))
  have hone : oneB (src.take (min m dn * sz)) = true := List.all_eq_true.2 fun u hu => List.all_eq_true.1 h1 u (List.mem_of_mem_take hu)
  have hf : (Builtin.firstCells i0.size (Nat.min m dn) (.slice A m c)).run Γ.P w = .ok (src.take (min m dn * sz)).toArray w := by
    cases hs : src with
    | nil =>
      cases A with
      | none => rw [List.take_nil]; exact run_firstCells_none w _ _ _ _
      | some a => exact run_firstCells_some w _ _ a m c _ (by rw [List.take_nil, hi2]; rw [hs, List.take_nil] at hlen; exact hlen) (fun j v hj => by simp at hj)
    | cons u0 us =>
      obtain ⟨a, rfl, _⟩ := hsrc 0 u0 (by rw [hs]; rfl)
      rw [← hs]
      refine run_firstCells_some w _ _ a m c _ (by rw [hi2]; exact hlen) (fun j v hj => ?_)
      rw [List.getElem?_take] at hj
      split at hj
      · obtain ⟨a', ha', hc⟩ := hsrc j v hj
        cases ha'
        exact hc.real hi
      · cases hj
  obtain ⟨w', hr, h2, h3, h4, h5, h6, h7⟩ := run_storeCells (P := Γ.P) (src.take (min m dn * sz)) w b off 0 cs t' fr hblk (by rw [hlen]; simpa using hfit) (by rw [hlen]; simpa using hfr) hone
  refine ⟨_, w', _, fun t => ?_, hi.set hL (by simpa using h2) h3 h4 h5 h6 h7, hk⟩
  simp [Builtin.copy_, run_underlying hu, Builtin.lenOf, sizeOf, typeInfo, hi1, hf, hr]
  rfl
theorem YCopy.ints {k : IntKind} {ty tx e : TypeId} {by_ b dn dc i : Nat} {x : Value} {l : List Int} {cs : List Value} {t' : TypeId} {fr : Nat × Nat} {K : Value → Hp → Prop}
    (hel : elS Γ.P ty = some (e, 1, by_)) (hx : SlI k (Cell Γ L) x l)
    (hL : L[i]? = some (some (b, .cells cs.toArray t' fr))) (hfit : min l.length dn ≤ cs.length) (hfr : min l.length dn ≤ fr.1 ∨ fr.2 ≤ 0)
    (hk : K (.int .i64 ((min l.length dn : Nat) : Int)) (L.set i (some (b, .cells (SX.ints k (l.take dn) ++ cs.drop (min l.length dn)).toArray t' fr)))) :
    YCopy Γ ty tx (.slice (some ⟨b, 0, none⟩) dn dc) x L K := by
  obtain ⟨A, c, rfl, hc, hA⟩ := hx
  refine YCopy.cells (i := i) (src := SX.ints k l) (off := 0) hel (by rw [ints_length, Nat.mul_one]) (fun j u hj => ?_) (ints_oneB k l) hL (by omega) (by omega) ?_
  · rw [ints_at] at hj
    obtain ⟨x, hx, rfl⟩ := Option.map_eq_some_iff.1 hj
    obtain ⟨a', ha', hc'⟩ := hA j x hx
    exact ⟨a', ha', by simpa [RInt] using hc'⟩
  · have e1 : (SX.ints k l).take (min l.length dn * 1) = SX.ints k (l.take dn) := by
      rw [Nat.mul_one]
      unfold SX.ints
      rw [← List.map_take]
      congr 1
      by_cases h : l.length ≤ dn
      · rw [Nat.min_eq_left h, List.take_of_length_le (Nat.le_refl _), List.take_of_length_le h]
      · rw [Nat.min_eq_right (by omega)]
    have hl2 : (SX.ints k (l.take dn)).length = min l.length dn := by rw [ints_length, List.length_take, Nat.min_comm]
    have e2 := setN_app (SX.ints k (l.take dn)) [] cs (by rw [hl2]; exact hfit)
    rw [hl2] at e2
    rw [e1]
    simp only [List.nil_append, List.length_nil] at e2
    rw [e2]
    exact hk
theorem YCopy.flat {α : Type} {f : α → List Value} {ty tx e : TypeId} {sz by_ b dn dc i : Nat} {x : Value} {l : List α} {cs : List Value} {t' : TypeId} {fr : Nat × Nat} {K : Value → Hp → Prop}
    (hf : ∀ x, (f x).length = sz) (h1 : ∀ x, oneB (f x) = true) (hel : elS Γ.P ty = some (e, sz, by_)) (hx : SlS sz f (Cell Γ L) x l)
    (hL : L[i]? = some (some (b, .cells cs.toArray t' fr))) (hdn : l.length ≤ dn) (hfit : l.length * sz ≤ cs.length) (hfr : l.length * sz ≤ fr.1 ∨ fr.2 ≤ 0)
    (hk : K (.int .i64 ((l.length : Nat) : Int)) (L.set i (some (b, .cells (l.flatMap f ++ cs.drop (l.length * sz)).toArray t' fr)))) :
    YCopy Γ ty tx (.slice (some ⟨b, 0, none⟩) dn dc) x L K := by
  obtain ⟨A, c, rfl, hc, hA⟩ := hx
  have hm : min l.length dn = l.length := Nat.min_eq_left hdn
  refine YCopy.cells (i := i) (src := l.flatMap f) (off := 0) hel (flat_len hf l) (fun j u hj => ?_) ?_ hL (by rw [hm]; omega) (by rw [hm]; omega) ?_
  · have hz : 0 < sz := by
      rcases Nat.eq_zero_or_pos sz with h | h
      · have := (List.getElem?_eq_some_iff.1 hj).1; rw [flat_len hf, h] at this; omega
      · exact h
    have hlt := (List.getElem?_eq_some_iff.1 hj).1
    rw [flat_len hf] at hlt
    have hq : j / sz < l.length := by rw [Nat.div_lt_iff_lt_mul hz]; exact hlt
    have hx : l[j / sz]? = some l[j / sz] := List.getElem?_eq_getElem hq
    obtain ⟨a, ha, hR⟩ := hA _ _ hx
    have e := flat_at hf hx (Nat.mod_lt j hz)
    rw [Nat.mul_comm, Nat.div_add_mod] at e
    rw [e] at hj
    refine ⟨a, ha, ?_⟩
    have := hR _ _ hj
    rw [add_addS, Nat.mul_comm, Nat.div_add_mod] at this
    exact this
  · refine List.all_eq_true.2 fun u hu => ?_
    obtain ⟨x, hx, hux⟩ := List.mem_flatMap.1 hu
    exact List.all_eq_true.1 (h1 x) u hux
  · have e2 := setN_app (l.flatMap f) [] cs (by rw [flat_len hf]; exact hfit)
    rw [flat_len hf] at e2
    simp only [List.nil_append, List.length_nil] at e2
    rw [hm, List.take_of_length_le (by rw [flat_len hf]; exact Nat.le_refl _), e2]
    exact hk
/-- What is read without a slot is read whatever the slot holds. -/
theorem Cell.hole {i : Nat} {s : Slot} {a : Addr} {v : Value} (h : Cell Γ (L.set i none) a v) : Cell Γ (L.set i s) a v := by
  rcases h with ⟨hs, cs, t, fr, hm, hc⟩ | h
  · refine .inl ⟨hs, cs, t, fr, ?_, hc⟩
    obtain ⟨j, hj⟩ := List.mem_iff_getElem?.1 hm
    rw [List.getElem?_set] at hj
    split at hj
    · split at hj <;> cases hj
    · rename_i hne
      refine List.mem_iff_getElem?.2 ⟨j, ?_⟩
      rw [List.getElem?_set, if_neg hne]
      exact hj
  · exact .inr h
theorem Sl.hole {α : Type} {sz : Nat} {f : α → List Value} {i : Nat} {s : Slot} {v : Value} {xs : List α} (h : SlS sz f (Cell Γ (L.set i none)) v xs) : SlS sz f (Cell Γ (L.set i s)) v xs := by
  obtain ⟨A, c, h1, h2, h3⟩ := h
  exact ⟨A, c, h1, h2, fun j x hj => let ⟨a, e1, e2⟩ := h3 j x hj; ⟨a, e1, fun k u hu => Cell.hole (e2 k u hu)⟩⟩
theorem SlI.hole {k : IntKind} {i : Nat} {s : Slot} {v : Value} {xs : List Int} (h : SlI k (Cell Γ (L.set i none)) v xs) : SlI k (Cell Γ (L.set i s)) v xs := by
  obtain ⟨A, c, h1, h2, h3⟩ := h
  exact ⟨A, c, h1, h2, fun j x hj => let ⟨a, e1, e2⟩ := h3 j x hj; ⟨a, e1, Cell.hole e2⟩⟩
theorem SlS.cons {α : Type} {sz : Nat} {f : α → List Value} (p : Slot) {v : Value} {xs : List α} (h : SlS sz f (Cell Γ L) v xs) : SlS sz f (Cell Γ (p :: L)) v xs := by
  obtain ⟨A, c, h1, h2, h3⟩ := h
  exact ⟨A, c, h1, h2, fun j x hj => let ⟨a, e1, e2⟩ := h3 j x hj; ⟨a, e1, fun k u hu => Cell.cons p (e2 k u hu)⟩⟩
theorem Cell.any {a : Addr} {v : Value} (h : Cell Γ [] a v) : Cell Γ L a v := by
  rcases h with ⟨_, _, _, _, hm, _⟩ | h
  · cases hm
  · exact .inr h
theorem Sl.any {α : Type} {sz : Nat} {R : (Addr → Value → Prop) → Addr → α → Prop} {v : Value} {xs : List α} (hR : ∀ a x, R (Cell Γ []) a x → R (Cell Γ L) a x) (h : Sl sz R (Cell Γ []) v xs) : Sl sz R (Cell Γ L) v xs := by
  obtain ⟨A, c, h1, h2, h3⟩ := h
  exact ⟨A, c, h1, h2, fun j x hj => let ⟨a, e1, e2⟩ := h3 j x hj; ⟨a, e1, hR _ _ e2⟩⟩
theorem SlI.any {k : IntKind} {v : Value} {xs : List Int} (h : SlI k (Cell Γ []) v xs) : SlI k (Cell Γ L) v xs := Sl.any (fun _ _ h => Cell.any h) h
theorem SCall.less {f : FuncId} {args : Array Value} {R R' : Value → Hp → Prop} (h : SCall Γ f args L R) (hr : ∀ v L', R v L' → ∃ L'', Less L' L'' ∧ R' v L'') : SCall Γ f args L R' :=
  fun w hi => (h w hi).mono fun _ _ ⟨v, L', h1, h2, h3⟩ => let ⟨L'', k1, k2⟩ := hr v L' h3; ⟨v, L'', h1, k1 _ _ h2, k2⟩
/-- A slot is let go. -/
theorem Less.hole (i : Nat) (L : Hp) : Less L (L.set i Option.none) := fun Γ w h => (h.none).put i
end
section
variable {H : Type} {enc : TypeId × Value → H} {P : Program}
end
end Go.SX
