/- A part of the proof of OpsLinesCardSaid. -/
import Derived.Test.YthhogfnghaikaaaDoorCSxAct
set_option linter.unusedVariables false
set_option linter.unusedSimpArgs false
namespace Go.SX
open Go.RowKit

def putVC (n : Nat) (d : Option Tmp) (v : Value) (T : Env) (k : Env → Prop) : Prop :=
  match d with
  | none => k T
  | some d => d < n ∧ k (upd T d v)
def guardVC (ops : Array Oper) (g : Option (Nat × Bool)) (T : Env) (yes no : Env → Prop) : Prop :=
  match g with
  | none => yes T
  | some (j, want) => match (ops.toList[j]?).bind (·.dst) with
    | none => no T
    | some d => match T d with
      | .bool b => if b = want then yes (upd T d (.bool want)) else no (upd T d (.bool (!want)))
      | _ => no T
/-- A region in the order of its text. -/
def VCops (Γ : Ctx) (n : Nat) (ops : Array Oper) : List Oper → (Env → Hp → Prop) → Env → Hp → Prop
  | [], K, T, L => K T L
  | o :: rest, K, T, L => guardVC ops o.guard T
      (fun T => VC Γ o T L (fun v L => putVC n o.dst v T (fun T => VCops Γ n ops rest K T L)))
      (fun T => putVC n o.dst undef T (fun T => VCops Γ n ops rest K T L))
/-- A region of quiet operations. -/
def VQops (Γ : Ctx) (n : Nat) (ops : Array Oper) (L : Hp) : List Oper → (Env → Prop) → Env → Prop
  | [], K, T => K T
  | o :: rest, K, T => guardVC ops o.guard T
      (fun T => VQ Γ o T L (fun v => putVC n o.dst v T (fun T => VQops Γ n ops L rest K T)))
      (fun T => putVC n o.dst undef T (fun T => VQops Γ n ops L rest K T))

theorem iteI {p : Prop} [Decidable p] {Y N : Prop} (h1 : p → Y) (h2 : ¬ p → N) : if p then Y else N := by
  split
  · exact h1 ‹_›
  · exact h2 ‹_›
section
variable {Γ : Ctx} {n : Nat} {T : Env} {L : Hp} {Q : Exit → Env → Hp → Prop}

theorem upd_eta {T : Env} {d : Nat} {v : Value} (h : T d = v) : upd T d v = T := by
  funext i
  unfold upd
  split
  · rename_i e; rw [e, h]
  · rfl

theorem guardVC_sound {ops : Array Oper} {o : Oper} {yes no : Env → Prop} {a : Act} (hf : Fits n T a) (h : guardVC ops o.guard T yes no) :
    (Region.wanted o (yielded ops a.tmps) = true ∧ yes T) ∨ (Region.wanted o (yielded ops a.tmps) = false ∧ no T) := by
  unfold guardVC at h
  unfold Region.wanted
  split at h
  · rename_i hg
    simp only [hg]
    exact .inl ⟨trivial, h⟩
  · rename_i j want hg
    simp only [hg]
    unfold yielded
    rw [← Array.getElem?_toList]
    split at h
    · rename_i hd
      rw [hd]
      exact .inr ⟨rfl, h⟩
    · rename_i d hd
      rw [hd]
      have hT := hf.2.2 d
      rw [Array.getD_eq_getD_getElem?] at hT
      simp only [Option.bind_some]
      split at h
      · rename_i b hb
        rw [hb] at hT
        have hget : a.tmps[d]? = some (.bool b) := by
          cases hx : a.tmps[d]? with
          | none => rw [hx] at hT; simp [undef] at hT
          | some x => rw [hx] at hT; simpa using hT
        rw [hget]
        by_cases hbw : b = want
        · subst hbw
          refine .inl ⟨by simp, ?_⟩
          rw [if_pos rfl] at h
          rwa [upd_eta hb] at h
        · have hbn : b = !want := by cases b <;> cases want <;> simp_all
          refine .inr ⟨by simp [hbw], ?_⟩
          rw [if_neg hbw] at h
          rwa [← hbn, upd_eta hb] at h
      · rename_i hnb
        refine .inr ⟨?_, h⟩
        cases hx : a.tmps[d]? with
        | none => rfl
        | some x =>
          rw [hx] at hT
          simp at hT
          subst hT
          split
          · rename_i b hb
            exact (hnb b (by simpa using hb)).elim
          · rfl

theorem putVC_sound {d : Option Tmp} {v : Value} {k : Env → Prop} {a : Act} (hf : Fits n T a) (h : putVC n d v T k) : ∃ T', Fits n T' (a.put d v) ∧ k T' := by
  unfold putVC at h
  split at h
  · exact ⟨T, hf, h⟩
  · exact ⟨_, hf.put h.1 v, h.2⟩

theorem VCops_sound {ops : Array Oper} : ∀ (l : List Oper) (K : Env → Hp → Prop) (T : Env) (L : Hp), VCops Γ n ops l K T L → ∀ a w, Fits n T a → Inv Γ L w →
    (∀ T L, K T L → Q .normal T L) → wpList Γ.P ops (lift Γ n Q) l a w := by
  intro l
  induction l with
  | nil => intro K T L h a w hf hi hk; exact ⟨T, L, hf, hi, hk _ _ h⟩
  | cons o rest ih =>
    intro K T L h a w hf hi hk
    simp only [VCops] at h
    rcases guardVC_sound hf h with ⟨hw, h⟩ | ⟨hw, h⟩
    · have hy := VC_sound h w hi
      rw [← hf.eval] at hy
      simp only [wpList, hw, if_true]
      refine .inl ?_
      unfold Oper.wp
      revert hy
      generalize (execOp a.eval o).run Γ.P w = r
      intro hy
      cases r with
      | halt x w' => exact hy.elim
      | ok nx w' =>
        cases nx <;> first | exact hy.elim | skip
        case value v =>
          obtain ⟨L', hi', hk'⟩ := hy
          obtain ⟨T', hf', hk'⟩ := putVC_sound hf hk'
          exact ih _ _ _ hk' _ _ hf' hi' hk
        case skip =>
          obtain ⟨L', hi', hk'⟩ := hy
          obtain ⟨T', hf', hk'⟩ := putVC_sound hf hk'
          exact ih _ _ _ hk' _ _ hf' hi' hk
        case enter f args =>
          simp only [Oper.upon]
          refine Calls.mono hy ?_
          rintro e w'' ⟨v, L', rfl, hi', hk'⟩
          obtain ⟨T', hf', hk'⟩ := putVC_sound hf hk'
          exact ih _ _ _ hk' _ _ hf' hi' hk
    · simp only [wpList, hw, Bool.false_eq_true, if_false]
      obtain ⟨T', hf', hk'⟩ := putVC_sound hf h
      exact ih _ _ _ hk' _ _ hf' hi hk

theorem VCops_sound2 {ops : Array Oper} {l2 : List Oper} : ∀ (l : List Oper) (K : Env → Hp → Prop) (T : Env) (L : Hp), VCops Γ n ops l K T L → ∀ a w, Fits n T a → Inv Γ L w →
    (∀ T L, K T L → ∀ a w, Fits n T a → Inv Γ L w → wpList Γ.P ops (lift Γ n Q) l2 a w) → wpList Γ.P ops (lift Γ n Q) (l ++ l2) a w := by
  intro l
  induction l with
  | nil => intro K T L h a w hf hi hk; exact hk _ _ h _ _ hf hi
  | cons o rest ih =>
    intro K T L h a w hf hi hk
    simp only [VCops] at h
    rcases guardVC_sound hf h with ⟨hw, h⟩ | ⟨hw, h⟩
    · have hy := VC_sound h w hi
      rw [← hf.eval] at hy
      simp only [List.cons_append, wpList, hw, if_true]
      refine .inl ?_
      unfold Oper.wp
      revert hy
      generalize (execOp a.eval o).run Γ.P w = r
      intro hy
      cases r with
      | halt x w' => exact hy.elim
      | ok nx w' =>
        cases nx <;> first | exact hy.elim | skip
        case value v =>
          obtain ⟨L', hi', hk'⟩ := hy
          obtain ⟨T', hf', hk'⟩ := putVC_sound hf hk'
          exact ih _ _ _ hk' _ _ hf' hi' hk
        case skip =>
          obtain ⟨L', hi', hk'⟩ := hy
          obtain ⟨T', hf', hk'⟩ := putVC_sound hf hk'
          exact ih _ _ _ hk' _ _ hf' hi' hk
        case enter f args =>
          simp only [Oper.upon]
          refine Calls.mono hy ?_
          rintro e w'' ⟨v, L', rfl, hi', hk'⟩
          obtain ⟨T', hf', hk'⟩ := putVC_sound hf hk'
          exact ih _ _ _ hk' _ _ hf' hi' hk
    · simp only [List.cons_append, wpList, hw, Bool.false_eq_true, if_false]
      obtain ⟨T', hf', hk'⟩ := putVC_sound hf h
      exact ih _ _ _ hk' _ _ hf' hi hk


/-- The rest of a region. -/
def RX (Γ : Ctx) (n : Nat) (ops : Array Oper) (l : List Oper) (Q : Exit → Env → Hp → Prop) (T : Env) (L : Hp) : Prop :=
  ∀ a w, Fits n T a → Inv Γ L w → wpList Γ.P ops (lift Γ n Q) l a w
theorem SX.region_x {id : Nat} {l : List Oper} (h : RX Γ n l.toArray l Q T L) : SX Γ n (.region id l.toArray false) Q T L := fun a w hf hi => wp_region_lit (h a w hf hi)
theorem RX.done {ops : Array Oper} {l : List Oper} (h : VCops Γ n ops l (Q .normal) T L) : RX Γ n ops l Q T L := fun a w hf hi => VCops_sound l _ _ _ h a w hf hi fun _ _ h => h
theorem RX.live {ops : Array Oper} {l : List Oper} (m : List Nat) (h : ∀ T', (∀ i, i ∈ m → T' i = T i) → RX Γ n ops l Q T' L) : RX Γ n ops l Q T L := h T fun _ _ => rfl
theorem RX.less {ops : Array Oper} {l : List Oper} {L' : Hp} (hl : Less L L') (h : RX Γ n ops l Q T L') : RX Γ n ops l Q T L := fun a w hf hi => h a w hf (hl _ _ hi)
theorem RX.join {ops : Array Oper} {l : List Oper} (c : Nat) {σ : Type} (I : σ → Env → Hp → Prop) (h : ∀ K : Env → Hp → Prop, (∀ s T' L' L'', Less L'' L' → I s T' L' → K T' L'') → VCops Γ n ops (l.take c) K T L)
    (k : ∀ s T L, I s T L → RX Γ n ops (l.drop c) Q T L) : RX Γ n ops l Q T L := fun a w hf hi => by
  have h1 := VCops_sound2 (Q := Q) (l2 := l.drop c) (l.take c) _ T L (h (fun T L => ∃ s L', Less L L' ∧ I s T L') fun s T' L' L'' hl hI => ⟨s, L', hl, hI⟩) a w hf hi
    (fun T L ⟨s, L', hl, hI⟩ a w hf hi => k s T L' hI a w hf (hl _ _ hi))
  rwa [List.take_append_drop] at h1
theorem RX.cut_k {ops : Array Oper} {l : List Oper} (c : Nat) (h : ∀ K : Env → Hp → Prop, (∀ T L, RX Γ n ops (l.drop c) Q T L → K T L) → VCops Γ n ops (l.take c) K T L) : RX Γ n ops l Q T L := fun a w hf hi => by
  have h1 := VCops_sound2 (Q := Q) (l2 := l.drop c) (l.take c) _ T L (h (fun T L => RX Γ n ops (l.drop c) Q T L) fun _ _ h => h) a w hf hi (fun T L h a w hf hi => h a w hf hi)
  rwa [List.take_append_drop] at h1
theorem SX.region {id : Nat} {l : List Oper} (h : VCops Γ n l.toArray l (Q .normal) T L) : SX Γ n (.region id l.toArray false) Q T L :=
  fun a w hf hi => wp_region_lit (VCops_sound l _ _ _ h a w hf hi fun _ _ h => h)

theorem VQops_sound {ops : Array Oper} : ∀ (l : List Oper) (K : Env → Prop) (T : Env), VQops Γ n ops L l K T → ∀ a, Fits n T a →
    wpQuiet Γ.P ops (Inv Γ L) (fun a => ∃ T, Fits n T a ∧ K T) l a := by
  intro l
  induction l with
  | nil => intro K T h a hf; exact ⟨T, hf, h⟩
  | cons o rest ih =>
    intro K T h a hf
    simp only [VQops] at h
    rcases guardVC_sound hf h with ⟨hw, h⟩ | ⟨hw, h⟩
    · obtain ⟨v, hk, hy⟩ := (VQ_sound h).upon
      simp only [wpQuiet, hw, if_true]
      refine ⟨v, fun w hi => ?_, ?_⟩
      · unfold Oper.quietAt
        rw [hf.eval]
        exact hy w hi
      · obtain ⟨T', hf', hk'⟩ := putVC_sound hf hk
        exact ih _ _ hk' _ hf'
    · simp only [wpQuiet, hw, Bool.false_eq_true, if_false]
      obtain ⟨T', hf', hk'⟩ := putVC_sound hf h
      exact ih _ _ hk' _ hf'

theorem VCops_append {ops : Array Oper} : ∀ (l1 l2 : List Oper) (K : Env → Hp → Prop) (T : Env) (L : Hp), VCops Γ n ops (l1 ++ l2) K T L = VCops Γ n ops l1 (fun T L => VCops Γ n ops l2 K T L) T L := by
  intro l1 l2 K
  induction l1 with
  | nil => intro T L; rfl
  | cons o r ih => intro T L; simp only [List.cons_append, VCops, ih]
theorem VCops_cut {ops : Array Oper} {l : List Oper} {K : Env → Hp → Prop} (c : Nat) (h : ∀ K' : Env → Hp → Prop, (∀ T L, VCops Γ n ops (l.drop c) K T L → K' T L) → VCops Γ n ops (l.take c) K' T L) : VCops Γ n ops l K T L := by
  have h1 := h _ fun _ _ h => h
  rw [← VCops_append, List.take_append_drop] at h1
  exact h1
theorem VCops.live {ops : Array Oper} {l : List Oper} {K : Env → Hp → Prop} (m : List Nat) (h : ∀ T', (∀ i, i ∈ m → T' i = T i) → VCops Γ n ops l K T' L) : VCops Γ n ops l K T L := h T fun _ _ => rfl
theorem VQops_append {ops : Array Oper} : ∀ (l1 l2 : List Oper) (K : Env → Prop) (T : Env), VQops Γ n ops L (l1 ++ l2) K T = VQops Γ n ops L l1 (fun T => VQops Γ n ops L l2 K T) T := by
  intro l1 l2 K
  induction l1 with
  | nil => intro T; rfl
  | cons o r ih => intro T; simp only [List.cons_append, VQops, ih]
theorem VQops_cut {ops : Array Oper} {l : List Oper} {K : Env → Prop} (c : Nat) (h : ∀ K' : Env → Prop, (∀ T, VQops Γ n ops L (l.drop c) K T → K' T) → VQops Γ n ops L (l.take c) K' T) : VQops Γ n ops L l K T := by
  have h1 := h _ fun _ h => h
  rw [← VQops_append, List.take_append_drop] at h1
  exact h1
theorem VQops.live {ops : Array Oper} {l : List Oper} {K : Env → Prop} (m : List Nat) (h : ∀ T', (∀ i, i ∈ m → T' i = T i) → VQops Γ n ops L l K T') : VQops Γ n ops L l K T := h T fun _ _ => rfl
theorem VQops_sound2 {ops : Array Oper} {l2 : List Oper} {F : Act → Prop} : ∀ (l : List Oper) (K : Env → Prop) (T : Env), VQops Γ n ops L l K T → ∀ a, Fits n T a →
    (∀ T, K T → ∀ a, Fits n T a → wpQuiet Γ.P ops (Inv Γ L) F l2 a) → wpQuiet Γ.P ops (Inv Γ L) F (l ++ l2) a := by
  intro l
  induction l with
  | nil => intro K T h a hf hk; exact hk T h a hf
  | cons o rest ih =>
    intro K T h a hf hk
    simp only [VQops] at h
    rcases guardVC_sound hf h with ⟨hw, h⟩ | ⟨hw, h⟩
    · obtain ⟨v, hk', hy⟩ := (VQ_sound h).upon
      simp only [List.cons_append, wpQuiet, hw, if_true]
      refine ⟨v, fun w hi => ?_, ?_⟩
      · unfold Oper.quietAt
        rw [hf.eval]
        exact hy w hi
      · obtain ⟨T', hf', hk''⟩ := putVC_sound hf hk'
        exact ih _ _ hk'' _ hf' hk
    · simp only [List.cons_append, wpQuiet, hw, Bool.false_eq_true, if_false]
      obtain ⟨T', hf', hk'⟩ := putVC_sound hf h
      exact ih _ _ hk' _ hf' hk
theorem wpQuiet_mono' {P : Program} {ops : Array Oper} {C : World → Prop} {Q Q' : Act → Prop} : ∀ {l : List Oper} {a : Act}, wpQuiet P ops C Q l a → (∀ a, Q a → Q' a) → wpQuiet P ops C Q' l a := by
  intro l
  induction l with
  | nil => intro a h hq; exact hq _ h
  | cons o rest ih =>
    intro a h hq
    simp only [wpQuiet] at h ⊢
    split
    · rename_i hw
      rw [if_pos hw] at h
      obtain ⟨v, h1, h2⟩ := h
      exact ⟨v, h1, ih h2 hq⟩
    · rename_i hw
      rw [if_neg hw] at h
      exact ih h hq
/-- A region that draws its order, all of its operations quiet. -/
theorem SX.quiet {id : Nat} {l : List Oper} (hm : Γ.P.follows .mixedOrders = true) (hB : Region.lexB .any l.toArray = true)
    (h : VQops Γ n l.toArray L l (fun T => Q .normal T L) T) : SX Γ n (.region id l.toArray true) Q T L := fun a w hf hi => by
  refine wp_region_quiet (C := Inv Γ L) hm hB hi.drewR ?_
  exact wpQuiet_mono' (VQops_sound _ _ _ h a hf) fun a' ⟨T', hf', hk⟩ w' hi' => ⟨T', L, hf', hi', hk⟩
/-- The rest of a region of quiet operations. -/
def QX (Γ : Ctx) (n : Nat) (ops : Array Oper) (l : List Oper) (L : Hp) (K : Env → Prop) (T : Env) : Prop :=
  ∀ a, Fits n T a → wpQuiet Γ.P ops (Inv Γ L) (fun a => ∃ T, Fits n T a ∧ K T) l a
theorem SX.quiet_x {id : Nat} {l : List Oper} (hm : Γ.P.follows .mixedOrders = true) (hB : Region.lexB .any l.toArray = true)
    (h : QX Γ n l.toArray l L (fun T => Q .normal T L) T) : SX Γ n (.region id l.toArray true) Q T L := fun a w hf hi => by
  refine wp_region_quiet (C := Inv Γ L) hm hB hi.drewR ?_
  exact wpQuiet_mono' (h a hf) fun a' ⟨T', hf', hk⟩ w' hi' => ⟨T', L, hf', hi', hk⟩
theorem QX.done {ops : Array Oper} {l : List Oper} {K : Env → Prop} (h : VQops Γ n ops L l K T) : QX Γ n ops l L K T := fun a hf => VQops_sound l _ _ h a hf
theorem QX.live {ops : Array Oper} {l : List Oper} {K : Env → Prop} (m : List Nat) (h : ∀ T', (∀ i, i ∈ m → T' i = T i) → QX Γ n ops l L K T') : QX Γ n ops l L K T := h T fun _ _ => rfl
theorem QX.join {ops : Array Oper} {l : List Oper} {K : Env → Prop} (c : Nat) {σ : Type} (I : σ → Env → Hp → Prop) (h : ∀ K' : Env → Hp → Prop, (∀ s T' L' L'', L'' = L' → I s T' L' → K' T' L'') → VQops Γ n ops L (l.take c) (fun T => K' T L) T)
    (k : ∀ s T L', L' = L → I s T L' → QX Γ n ops (l.drop c) L K T) : QX Γ n ops l L K T := fun a hf => by
  have h1 := VQops_sound2 (l2 := l.drop c) (F := fun a => ∃ T, Fits n T a ∧ K T) (l.take c) _ T (h (fun T L0 => ∃ s, I s T L0) fun s T' L' L'' hl hI => ⟨s, hl ▸ hI⟩) a hf
    (fun T ⟨s, hI⟩ a hf => k s T L rfl hI a hf)
  rwa [List.take_append_drop] at h1
theorem QX.cut_k {ops : Array Oper} {l : List Oper} {K : Env → Prop} (c : Nat) (h : ∀ K' : Env → Hp → Prop, (∀ T L', QX Γ n ops (l.drop c) L K T → K' T L') → VQops Γ n ops L (l.take c) (fun T => K' T L) T) : QX Γ n ops l L K T := fun a hf => by
  have h1 := VQops_sound2 (l2 := l.drop c) (F := fun a => ∃ T, Fits n T a ∧ K T) (l.take c) _ T (h (fun T _ => QX Γ n ops (l.drop c) L K T) fun _ _ h => h) a hf (fun T h a hf => h a hf)
  rwa [List.take_append_drop] at h1
end
end Go.SX
