/- A part of the proof of OpsLinesCardSaid. -/
import Derived.Test.YthhogfnghaikaaaDoorCSxVC
import Derived.DeepKeys
import Derived.Laws.StructEq
import Derived.LaidEqlPtr
set_option linter.unusedVariables false
set_option linter.unusedSimpArgs false
namespace Go.SX
open Go.RowKit
section
variable {P : Program} {Γ : Ctx} {T : Env} {L : Hp}

theorem toList_beq (a b : ByteArray) : (a.toList == b.toList) = decide (a = b) := by
  have key : a.toList = b.toList ↔ a = b := by
    constructor
    · intro h
      have ha := Go.ByteArray.toList_eq a
      have hb := Go.ByteArray.toList_eq b
      rw [ha, hb] at h
      cases a; cases b
      simp at h
      simp [h]
    · rintro rfl; rfl
  by_cases h : a = b
  · simp [h]
  · have h2 : ¬ a.toList = b.toList := fun e => h (key.1 e)
    simp [h, h2]

theorem ptB_some {t : TypeId} (h : ptB P t = true) : ∃ e i, P.underlying t = some (.pointer e) ∧ P.info? e = some i := by
  unfold ptB at h
  split at h
  · rename_i e he
    obtain ⟨i, hi⟩ := Option.isSome_iff_exists.1 h
    exact ⟨e, i, he, hi⟩
  · cases h
theorem run_ptr_nil {t e : TypeId} {i : TypeInfo} (hu : P.underlying t = some (.pointer e)) (hi : P.info? e = some i) (a : Option Addr) (w : World) : (Op.equal t (.pointer a) (.pointer none)).run P w = .ok a.isNone w := by
  have h : ∀ d : Nat, (Op.equalIn (d + 1) t (.pointer a) (.pointer none)).run P w = .ok a.isNone w := fun d => by
    cases a <;> simp [Op.equalIn, run_underlying hu, sizeOf, typeInfo, hi]
  exact h 9999
theorem run_ptr_same {t e : TypeId} {i : TypeInfo} (hu : P.underlying t = some (.pointer e)) (hi : P.info? e = some i) (a : Addr) (w : World) : (Op.equal t (.pointer (some a)) (.pointer (some a))).run P w = .ok true w := by
  have h : ∀ d : Nat, (Op.equalIn (d + 1) t (.pointer (some a)) (.pointer (some a))).run P w = .ok true w := fun d => by
    simp [Op.equalIn, run_underlying hu, sizeOf, typeInfo, hi, run_sameAddr_same]
  exact h 9999
theorem run_sl_nil {t e : TypeId} (hu : P.underlying t = some (.slice e)) (a : Option Addr) (l c : Nat) (w : World) : (Op.equal t (.slice a l c) (.slice none 0 0)).run P w = .ok a.isNone w := by
  have h : ∀ d : Nat, (Op.equalIn (d + 1) t (.slice a l c) (.slice none 0 0)).run P w = .ok a.isNone w := fun d => by
    cases a <;> simp [Op.equalIn, run_underlying hu]
  exact h 9999
theorem elS_sl {t : TypeId} (h : (elS P t).isSome = true) : ∃ e, P.underlying t = some (.slice e) := by
  unfold elS at h
  split at h
  · rename_i e he; exact ⟨e, he⟩
  · cases h
theorem binVC_sound {op : BinOp} {t : TypeId} {x y : Value} {K : Value → Prop} {D : Prop} (h : binVC P op t x y K D) :
    (∃ v, K v ∧ ∀ (X Y : Operand) (w : World), ((do eqGuard op t X Y x y; binOp op t x y) : Sem Value).run P w = .ok v w) ∨ D := by
  unfold binVC at h
  split at h
  case h_31 => exact .inr h
  all_goals refine .inl ?_
  case h_4 | h_5 =>
    obtain ⟨rfl, hb, hk⟩ := h
    refine ⟨_, hk, fun X Y w => ?_⟩
    simp [go_sem, Op.intDiv, hb]
  case h_10 | h_11 =>
    obtain ⟨h0, hk⟩ := h
    refine ⟨_, hk, fun X Y w => ?_⟩
    simp [eqGuard, binOp, Op.shift, Int.not_lt.2 h0]
  case h_20 =>
    obtain ⟨h0, hk⟩ := h
    refine ⟨_, hk, fun X Y w => ?_⟩
    have : ¬ (((_ : Nat) : Int) > IntKind.i64.max) := Int.not_lt.2 (by rw [IntKind.max_i64]; exact Int.ofNat_le.2 h0)
    simp [go_sem, binOp, Op.stringOp, eqGuard]
    omega
  case h_23 | h_24 =>
    obtain ⟨hk, hg, hfa, hfb, la, lb, hla, hlb, hK⟩ := h
    obtain ⟨r, hr, hiff⟩ := run_equalIn_deep (P := P) 9991 9 t hk default 9 9 (.agg _) (.agg _) la lb hfa hfb hla hlb
    refine ⟨_, hK r hiff, fun X Y w => ?_⟩
    obtain ⟨r', hr', hiff'⟩ := run_equalIn_deep (P := P) 9991 9 t hk w 9 9 (.agg _) (.agg _) la lb hfa hfb hla hlb
    have hrr : r' = r := by
      have h2 := hiff'.trans hiff.symm
      cases r <;> cases r' <;> simp_all
    subst hrr
    have hr2 : (Op.equalIn Op.maxDepth t (.agg _) (.agg _)).run P w = .ok r' w := hr'
    simp [go_sem, hg, hr2, binOp, Op.equal]
  case h_25 | h_26 =>
    obtain ⟨hp, h⟩ := h
    obtain ⟨e, i, hu, hi⟩ := ptB_some hp
    refine ⟨_, h, fun X Y w => ?_⟩
    simp [eqGuard, binOp, Sem.run_bind, run_ptr_nil hu hi]
  case h_27 | h_28 =>
    obtain ⟨hp, rfl, h⟩ := h
    obtain ⟨e, i, hu, hi⟩ := ptB_some hp
    refine ⟨_, h, fun X Y w => ?_⟩
    simp [eqGuard, binOp, Sem.run_bind, run_ptr_same hu hi]
  case h_29 | h_30 =>
    obtain ⟨hp, h⟩ := h
    obtain ⟨e, hu⟩ := elS_sl hp
    refine ⟨_, h, fun X Y w => ?_⟩
    simp [eqGuard, binOp, Sem.run_bind, run_sl_nil hu]
  case h_21 =>
    refine ⟨_, h, fun X Y w => ?_⟩
    simp [eqGuard, binOp, Op.stringOp, toList_beq]
  case h_22 =>
    refine ⟨_, h, fun X Y w => ?_⟩
    simp [eqGuard, binOp, Op.stringOp, toList_beq]
  case h_18 | h_19 =>
    obtain ⟨hu, hk⟩ := h
    refine ⟨_, hk, fun X Y w => ?_⟩
    simp [go_sem, hu]
  all_goals
    obtain ⟨rfl, hk⟩ := h
    refine ⟨_, hk, fun X Y w => ?_⟩
    first
    | (simp [go_sem, Op.intArith]; done)
    | (rename_i k a b; by_cases hab : a = b <;> simp [eqGuard, binOp, Op.intCmp, hab])

theorem unVC_sound {op : UnOp} {x : Value} {K : Value → Prop} {D : Prop} (h : unVC op x K D) : (∃ v, K v ∧ ∀ w : World, (Op.unary op x).run P w = .ok v w) ∨ D := by
  unfold unVC at h
  split at h
  · exact .inl ⟨_, h, fun w => by simp [Op.unary]⟩
  · exact .inl ⟨_, h, fun w => by simp [Op.unary, Op.intArith]⟩
  · exact .inl ⟨_, h, fun w => by simp [Op.unary, go_sem]⟩
  · exact .inr h

theorem loadN_sound {a : Addr} {K : Value → Prop} : ∀ (k i : Nat) (acc : List Value), loadN Γ L a i k acc K →
    ∃ vs : List Value, vs.length = k ∧ K (.agg (acc ++ vs).toArray) ∧ ∀ j v, vs[j]? = some v → Cell Γ L (a.add (i + j)) v := by
  intro k
  induction k with
  | zero => intro i acc h; exact ⟨[], rfl, by simpa [loadN] using h, fun j v hj => by simp at hj⟩
  | succ k ih =>
    intro i acc h
    obtain ⟨v, hc, h⟩ := h
    obtain ⟨vs, hl, hk, hcs⟩ := ih (i + 1) (acc ++ [v]) h
    refine ⟨v :: vs, by simp [hl], by simpa using hk, fun j u hj => ?_⟩
    cases j with
    | zero => simp at hj; subst hj; simpa using hc
    | succ j =>
      have := hcs j u (by simpa using hj)
      rwa [Nat.add_assoc, Nat.add_comm 1 j] at this

theorem szA_some {t : TypeId} {n : Nat} {b : Bool} (h : szA P t = some (n, b)) : ∃ i d, P.info? t = some i ∧ i.size = n ∧ P.underlying t = some d ∧ aggT P t = b := by
  unfold szA at h
  split at h
  · rename_i i d hi hd
    simp at h
    exact ⟨i, d, hi, h.1, hd, h.2⟩
  · cases h
theorem run_isAgg {t : TypeId} {n : Nat} {b : Bool} (h : szA P t = some (n, b)) (w : World) : (isAgg t).run P w = .ok b w := by
  obtain ⟨i, d, hi, hs, hd, hb⟩ := szA_some h
  unfold aggT at hb
  unfold isAgg
  simp only [Sem.run_bind, run_underlying hd, Result.andThen]
  rw [hd] at hb
  cases d <;> simp_all
theorem run_sizeOf {t : TypeId} {n : Nat} {b : Bool} (h : szA P t = some (n, b)) (w : World) : (sizeOf t).run P w = .ok n w := by
  obtain ⟨i, d, hi, hs, hd, hb⟩ := szA_some h
  simp [sizeOf, typeInfo, hi, hs]

theorem loadVC_sound {t : TypeId} {a : Addr} {K : Value → Prop} (h : loadVC Γ t L a K) : ∃ v, K v ∧ ∀ w, Inv Γ L w → (loadVar t a).run Γ.P w = .ok v w := by
  unfold loadVC at h
  split at h
  · rename_i n hs
    obtain ⟨vs, hl, hk, hc⟩ := loadN_sound _ _ _ h
    refine ⟨_, hk, fun w hi => ?_⟩
    have := run_loadCells_list (P := Γ.P) w a vs (fun j v hj => by have := (hc j v hj).real hi; simpa using this)
    rw [hl] at this
    simp [loadVar, run_isAgg hs, run_sizeOf hs, this]
  · rename_i n hs
    obtain ⟨v, hc, hk⟩ := h
    refine ⟨v, hk, fun w hi => ?_⟩
    simp [loadVar, run_isAgg hs, hc.real hi]
  · exact h.elim

theorem elS_some {t e : TypeId} {n b : Nat} (h : elS P t = some (e, n, b)) : P.underlying t = some (.slice e) ∧ ∃ i, P.info? e = some i ∧ i.size = n ∧ i.bytes = b := by
  unfold elS at h
  split at h
  · rename_i e' he
    obtain ⟨i, hi, hx⟩ := Option.map_eq_some_iff.1 h
    simp at hx
    obtain ⟨rfl, h1, h2⟩ := hx
    exact ⟨he, i, hi, h1, h2⟩
  · cases h
theorem elS_isSome {t : TypeId} (h : (elS P t).isSome = true) : ∃ e, P.underlying t = some (.slice e) := by
  obtain ⟨⟨e, n, b⟩, h⟩ := Option.isSome_iff_exists.1 h
  exact ⟨e, (elS_some h).1⟩
theorem elA_some {t e : TypeId} {n s : Nat} {b : Bool} (h : elA P t = some (n, e, s, b)) : P.underlying t = some (.array n e) ∧ szA P e = some (s, b) := by
  unfold elA at h
  split at h
  · rename_i n' e' he
    obtain ⟨i, hi, hx⟩ := Option.map_eq_some_iff.1 h
    simp at hx
    obtain ⟨rfl, rfl, h1, h2⟩ := hx
    refine ⟨he, ?_⟩
    rw [hi, ← h1, ← h2]
  · cases h
theorem sizeOf_info {t : TypeId} {i : TypeInfo} (h : P.info? t = some i) (w : World) : (sizeOf t).run P w = .ok i.size w := by simp [sizeOf, typeInfo, h]

theorem mapM_getElem? {α β : Type} (f : α → Option β) : ∀ (l : List α) (r : List β), l.mapM f = some r → r.length = l.length ∧ ∀ (i : Nat) (x : β), r[i]? = some x → ∃ a, l[i]? = some a ∧ f a = some x := by
  intro l
  induction l with
  | nil => intro r h; simp at h; subst h; simp
  | cons a l ih =>
    intro r h
    simp only [List.mapM_cons, bind, Option.bind] at h
    cases hf : f a with
    | none => simp [hf] at h
    | some b =>
      simp only [hf] at h
      cases hl : l.mapM f with
      | none => simp [hl] at h
      | some r' =>
        simp [hl] at h
        subst h
        obtain ⟨h1, h2⟩ := ih r' hl
        refine ⟨by simp [h1], fun i x hx => ?_⟩
        cases i with
        | zero => simp at hx; subst hx; exact ⟨a, rfl, hf⟩
        | succ i => exact h2 i x (by simpa using hx)

theorem lay_some {t : TypeId} {l : List (Nat × Nat × Bool)} (h : lay P t = some l) : ∃ fs, P.underlying t = some (.struct fs) ∧ fs.toList.mapM (layF P) = some l := by
  unfold lay at h
  split at h
  · rename_i fs hf
    exact ⟨fs, hf, h⟩
  · cases h
theorem lay_at {t : TypeId} {l : List (Nat × Nat × Bool)} {f off sz : Nat} {ag : Bool} (h : lay P t = some l) (hf : l[f]? = some (off, sz, ag)) :
    ∃ fs fd, P.underlying t = some (.struct fs) ∧ fs[f]? = some fd ∧ fd.offset = off ∧ szA P fd.type = some (sz, ag) := by
  obtain ⟨fs, hu, hm⟩ := lay_some h
  obtain ⟨_, h2⟩ := mapM_getElem? _ _ _ hm
  obtain ⟨fd, hfd, hx⟩ := h2 _ _ hf
  unfold layF at hx
  obtain ⟨p, hp, he⟩ := Option.map_eq_some_iff.1 hx
  simp at he
  obtain ⟨h1, h2, h3⟩ := he
  refine ⟨fs, fd, hu, by simpa using hfd, h1, ?_⟩
  rw [hp, ← h2, ← h3]

theorem partVC_sound {ag : Bool} {sz off : Nat} {cs : Array Value} {K : Value → Prop} {t : TypeId} (hs : szA P t = some (sz, ag)) (h : partVC ag sz cs off K) : ∃ v, K v ∧ ∀ w, (part t cs off).run P w = .ok v w := by
  unfold partVC at h
  split at h
  · rename_i hag
    subst hag
    refine ⟨_, h, fun w => ?_⟩
    simp [part, run_isAgg hs, run_sizeOf hs]
    apply Array.ext'
    simp [List.extract_eq_take_drop]
  · rename_i hag
    simp at hag
    subst hag
    obtain ⟨v, hv, hk⟩ := h
    refine ⟨v, hk, fun w => ?_⟩
    have : cs[off]? = some v := by simpa using hv
    simp [part, run_isAgg hs, this]

theorem setN_length : ∀ (cs cells : List Value) (off : Nat), (setN cells off cs).length = cells.length := by
  intro cs
  induction cs with
  | nil => intro cells off; rfl
  | cons c cs ih => intro cells off; simp [setN, ih]
theorem setN_fold : ∀ (cs : List Value) (cells : List Value) (off k : Nat), (cs.zipIdx k).foldl (fun (r : Array Value) x => r.setIfInBounds (off + x.2) x.1) cells.toArray = (setN cells (off + k) cs).toArray := by
  intro cs
  induction cs with
  | nil => intro cells off k; rfl
  | cons c cs ih =>
    intro cells off k
    simp only [List.zipIdx_cons, List.foldl_cons, setN]
    rw [show cells.toArray.setIfInBounds (off + k) c = (cells.set (off + k) c).toArray by simp, ih, Nat.add_assoc]
theorem fillL_sound {place : Nat → Option (Nat × Nat)} : ∀ (parts : List (Nat × Value)) (cells r : List Value), fillL place cells parts = some r → Instr.fill place cells.toArray parts = some r.toArray := by
  intro parts
  induction parts with
  | nil => intro cells r h; simp [fillL] at h; simp [Instr.fill, h]
  | cons p rest ih =>
    intro cells r h
    obtain ⟨i, v⟩ := p
    simp only [fillL] at h
    simp only [Instr.fill]
    cases hp : place i with
    | none => simp [hp] at h
    | some q =>
      obtain ⟨off, size⟩ := q
      simp only [hp] at h
      split at h
      · rename_i hc
        obtain ⟨h1, h2⟩ := hc
        have hc2 : ¬ ((decide (v.cells.size ≠ size) || decide (off + v.cells.size > cells.toArray.size)) = true) := by
          simp [h1]; omega
        dsimp only
        rw [if_neg hc2]
        have hf := setN_fold v.cells.toList cells off 0
        rw [Nat.add_zero] at hf
        have : v.cells.zipIdx.foldl (fun (cs : Array Value) (x : Value × Nat) => cs.setIfInBounds (off + x.2) x.1) cells.toArray = (setN cells off v.cells.toList).toArray := by
          rw [← hf, ← Array.foldl_toList]
          simp
        have hgoal := ih _ _ h
        rw [← this] at hgoal
        exact hgoal
      · cases h
end
end Go.SX
