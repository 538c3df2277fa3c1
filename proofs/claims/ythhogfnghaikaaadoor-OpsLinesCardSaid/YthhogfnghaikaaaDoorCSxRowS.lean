/- A part of the proof of OpsLinesCardSaid. -/
import Derived.Test.YthhogfnghaikaaaDoorCSxOpen
set_option linter.unusedVariables false
set_option linter.unusedSimpArgs false
/-! Rows of structs: a slice of one's own whose elements are lists of cells. -/
namespace Go.SX
open Go.RowKit
section
variable {Γ : Ctx} {L : Hp} {α : Type} {f : α → List Value} {e sz : Nat}
theorem flat_len (hf : ∀ x, (f x).length = sz) : ∀ l : List α, (l.flatMap f).length = l.length * sz
  | [] => by simp
  | x :: l => by rw [List.flatMap_cons, List.length_append, hf, flat_len hf l, List.length_cons, Nat.add_one_mul]; omega
theorem flat_at (hf : ∀ x, (f x).length = sz) : ∀ {l : List α} {j k : Nat} {x : α}, l[j]? = some x → k < sz → (l.flatMap f)[j * sz + k]? = (f x)[k]?
  | [], j, k, x, h, _ => by simp at h
  | y :: l, 0, k, x, h, hk => by
    simp at h; subst h
    rw [List.flatMap_cons, Nat.zero_mul, Nat.zero_add, List.getElem?_append_left (by rw [hf]; exact hk)]
  | y :: l, j + 1, k, x, h, hk => by
    rw [List.flatMap_cons, List.getElem?_append_right (by rw [hf, Nat.add_one_mul]; omega), hf, Nat.add_one_mul, show j * sz + sz + k - sz = j * sz + k by omega]
    exact flat_at hf (by simpa using h) hk
theorem flat_split (hf : ∀ x, (f x).length = sz) : ∀ {l : List α} {j : Nat} {x : α}, l[j]? = some x → ∃ A B, l.flatMap f = A ++ f x ++ B ∧ A.length = j * sz ∧ ∀ y, (l.set j y).flatMap f = A ++ f y ++ B
  | [], j, x, h => by simp at h
  | z :: l, 0, x, h => by
    simp at h; subst h
    exact ⟨[], l.flatMap f, by simp, by simp, fun y => by simp⟩
  | z :: l, j + 1, x, h => by
    obtain ⟨A, B, h1, h2, h3⟩ := flat_split hf (l := l) (j := j) (x := x) (by simpa using h)
    exact ⟨f z ++ A, B, by rw [List.flatMap_cons, h1]; simp, by rw [List.length_append, hf, h2, Nat.add_one_mul]; omega, fun y => by rw [List.set_cons_succ, List.flatMap_cons, h3]; simp⟩
abbrev RowL (f : α → List Value) (e sz : Nat) (v : Value) (l : List α) (s : Slot) : Prop := Row e sz v l.length (l.flatMap f) s
theorem RowL.nil (f : α → List Value) (e sz : Nat) : RowL f e sz (.slice none 0 0) [] none := Row.nil e sz
theorem RowL.sl {v : Value} {l : List α} {s : Slot} {i : Nat} (hf : ∀ x, (f x).length = sz) (h : RowL f e sz v l s) (hL : L[i]? = some s) : SlS sz f (Cell Γ L) v l :=
  Row.sl h hL rfl fun C j x a hj hk => fun k u hu => by
    have hks : k < sz := by rw [← hf x]; exact (List.getElem?_eq_some_iff.1 hu).1
    exact hk k hks u (by rw [flat_at hf hj hks]; exact hu)
/-- append(v, x). -/
theorem YAppend.rowL {ty by_ i b : Nat} {z : List Value} {v : Value} {l : List α} {x : α} {s : Slot} {fr : Nat × Nat} {K : Value → Hp → Prop}
    (hel : elS Γ.P ty = some (e, sz, by_)) (hz : zr Γ.P e = some z) (hzl : z.length = sz) (hf : (f x).length = sz) (h1 : oneB (f x) = true) (hL : L[i]? = some s) (hr : RowL f e sz v l s)
    (hb : (l.length + 1) * by_ ≤ 140737488355328) (hb0 : 0 < by_) (hK : ∀ v' s', RowL f e sz v' (l ++ [x]) s' → K v' (some (b, .cells (f x).toArray e fr) :: L.set i s')) :
    YAppend Γ ty ty v (.slice (some ⟨b, 0, none⟩) 1 1) (some (b, .cells (f x).toArray e fr) :: L) K := by
  refine YAppend.row (i := i + 1) (ys := f x) (m := 1) hel hz hzl (by simpa using hL) hr (SrcV.lit (ys := f x) (by rw [hel]; rfl) (by rw [hf]; omega) h1) (by rw [hf]; omega) hb hb0 fun v' s' hr' => ?_
  have := hK v' s' (by
    show Row e sz v' (l ++ [x]).length ((l ++ [x]).flatMap f) s'
    rw [List.flatMap_append, List.length_append]
    simpa using hr')
  simpa using this
theorem RowL.form {v : Value} {l : List α} {s : Slot} (h : RowL f e sz v l s) (hl : 0 < l.length) :
    ∃ g cap junk, v = .slice (some ⟨g, 0, none⟩) l.length cap ∧ s = some (g, .cells (l.flatMap f ++ junk).toArray e (0, 0)) ∧ l.length ≤ cap ∧ (l.flatMap f ++ junk).length = cap * sz := by
  obtain ⟨_, ⟨_, h0, _⟩ | ⟨g, cap, junk, h1, h2, h3, h4⟩⟩ := h
  · omega
  · exact ⟨g, cap, junk, h1, h2, h3, h4⟩
theorem RowL.mk {l : List α} {g cap : Nat} {junk : List Value} (hf : ∀ x, (f x).length = sz) (hc : l.length ≤ cap) (hl : (l.flatMap f ++ junk).length = cap * sz) :
    RowL f e sz (.slice (some ⟨g, 0, none⟩) l.length cap) l (some (g, .cells (l.flatMap f ++ junk).toArray e (0, 0))) :=
  ⟨flat_len hf l, .inr ⟨g, cap, junk, rfl, rfl, hc, hl⟩⟩
/-- A store into an element, or a part of it. -/
theorem setN_flat (hf : ∀ x, (f x).length = sz) {l : List α} {junk : List Value} {j o : Nat} {x y : α} {vs : List Value} (hj : l[j]? = some x) (hs : setN (f x) o vs = f y) (ho : o + vs.length ≤ sz) :
    setN (l.flatMap f ++ junk) (j * sz + o) vs = (l.set j y).flatMap f ++ junk := by
  obtain ⟨A, B, h1, h2, h3⟩ := flat_split hf hj
  have hx := hf x
  obtain ⟨C, D, hcd, hC⟩ : ∃ C D, f x = C ++ D ∧ C.length = o := ⟨(f x).take o, (f x).drop o, (List.take_append_drop ..).symm, by rw [List.length_take]; omega⟩
  have hD : vs.length ≤ D.length := by have := congrArg List.length hcd; rw [List.length_append] at this; omega
  have e1 : setN (f x) o vs = C ++ vs ++ D.drop vs.length := by rw [hcd, ← hC, setN_app _ _ _ hD]
  rw [h1, h3, ← hs, e1, hcd]
  have e2 : A ++ (C ++ D) ++ B ++ junk = (A ++ C) ++ (D ++ (B ++ junk)) := by simp
  rw [e2, ← h2, ← hC, ← List.length_append, setN_app _ _ _ (by rw [List.length_append]; omega), List.drop_append_of_le_length hD]
  simp
end
end Go.SX
