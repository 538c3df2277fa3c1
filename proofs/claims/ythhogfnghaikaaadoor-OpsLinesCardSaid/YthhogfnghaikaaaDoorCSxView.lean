/- A part of the proof of OpsLinesCardSaid. -/
import Derived.Test.YthhogfnghaikaaaDoorCSxRowS
set_option linter.unusedVariables false
set_option linter.unusedSimpArgs false
/-! append to a row of which an elder slice still reads the head. -/
namespace Go.SX
open Go.RowKit
def apartS (s t : Slot) : Prop := ∀ b (o o' : Obj), s = some (b, o) → t = some (b, o') → False
theorem inj_pairwise {L : Hp} : (∀ (i j b : Nat) (o o' : Obj), L[i]? = some (some (b, o)) → L[j]? = some (some (b, o')) → i = j) ↔ L.Pairwise apartS := by
  rw [List.pairwise_iff_getElem]
  constructor
  · intro h i j hi hj hij b o o' h1 h2
    have := h i j b o o' (by rw [List.getElem?_eq_getElem hi, h1]) (by rw [List.getElem?_eq_getElem hj, h2])
    omega
  · intro h i j b o o' h1 h2
    obtain ⟨hi, e1⟩ := List.getElem?_eq_some_iff.1 h1
    obtain ⟨hj, e2⟩ := List.getElem?_eq_some_iff.1 h2
    rcases Nat.lt_trichotomy i j with hlt | rfl | hlt
    · exact (h i j hi hj hlt b o o' e1 e2).elim
    · rfl
    · exact (h j i hj hi hlt b o' o e2 e1).elim
theorem Less.of_pairwise {L L' : Hp} (h : L.Pairwise apartS → L'.Pairwise apartS) (hm : ∀ s, s ∈ L' → s ∈ L) : Less L L' := fun Γ w hi =>
  { hi with
    inj := inj_pairwise.2 (h (inj_pairwise.1 hi.inj))
    blk := fun b o hb => hi.blk b o (hm _ hb)
    src := fun b o hb => hi.src b o (hm _ hb) }
theorem Less.perm {L L' : Hp} (h : L.Perm L') : Less L L' := .of_pairwise (fun hp => (h.pairwise_iff (fun {a b} hab b' o o' h1 h2 => hab b' o' o h2 h1)).1 hp) fun s hs => h.mem_iff.2 hs
theorem Less.sublist {L L' : Hp} (h : L'.Sublist L) : Less L L' := .of_pairwise (fun hp => hp.sublist h) fun s hs => h.subset hs

section
variable {Γ : Ctx} {α : Type} {f : α → List Value}
/-- An elder slice vb reads lb: at the head of the row (v, xs), or in the block t that the row has left. -/
def View (f : α → List Value) (e : Nat) (vb : Value) (lb : List α) (v : Value) (t : Slot) (n : Nat) (xs : List Value) : Prop :=
  (∀ b o, t = some (b, o) → ∃ cs fr, o = Obj.cells cs e fr) ∧ (lb = [] ∨ ∃ g cb, vb = .slice (some ⟨g, 0, none⟩) lb.length cb ∧ lb.length ≤ cb ∧
    ((∃ cap, v = .slice (some ⟨g, 0, none⟩) n cap ∧ lb.flatMap f <+: xs) ∨ ∃ (cs : List Value) (ty : TypeId) (fr : Nat × Nat), t = some (g, .cells cs.toArray ty fr) ∧ lb.flatMap f <+: cs))
theorem set_mid (P L0 : Hp) (s t x : Slot) : (P ++ s :: t :: L0).set P.length x = P ++ x :: t :: L0 := by simp
theorem YAppend.rowV {ty tx e : TypeId} {sz by_ : Nat} {z : List Value} {v x vb : Value} {lb : List α} {n m : Nat} {xs ys : List Value} {P L0 : Hp} {s t : Slot} {K : Value → Hp → Prop}
    (hel : elS Γ.P ty = some (e, sz, by_)) (hz : zr Γ.P e = some z) (hzl : z.length = sz) (hr : Row e sz v n xs s) (hV : View f e vb lb v t n xs) (hsrc : SrcV Γ (P ++ s :: t :: L0) sz tx x m ys) (hyl : ys.length = m * sz) (hm : 0 < m)
    (hb : (n + m) * by_ ≤ 140737488355328) (hb0 : 0 < by_) (hK : ∀ v' s' t', Row e sz v' (n + m) (xs ++ ys) s' → View f e vb lb v' t' (n + m) (xs ++ ys) → K v' (P ++ s' :: t' :: L0)) : YAppend Γ ty tx v x (P ++ s :: t :: L0) K := by
  have hr0 := hr
  have hL : (P ++ s :: t :: L0)[P.length]? = some s := by simp
  obtain ⟨hl, hform⟩ := hr
  have hlen : (xs ++ ys).length = (n + m) * sz := by rw [List.length_append, hl, hyl, Nat.add_mul]
  have mid : ∀ s', Less (s' :: (P ++ s :: t :: L0)) (P ++ s' :: s :: t :: L0) := fun s' => Less.perm List.perm_middle.symm
  have dropS : ∀ s', Less (P ++ s' :: s :: t :: L0) (P ++ s' :: t :: L0) := fun s' => Less.sublist (List.Sublist.append_left (.cons_cons _ (.cons _ (List.Sublist.refl _))) _)
  have dropT : ∀ s', Less (P ++ s' :: s :: t :: L0) (P ++ s' :: s :: L0) := fun s' => Less.sublist (List.Sublist.append_left (.cons_cons _ (.cons_cons _ (.cons _ (List.Sublist.refl _)))) _)
  intro w hi
  obtain ⟨hVt, hV⟩ := hV
  rcases hform with ⟨rfl, rfl, rfl⟩ | ⟨g, cap, junk, rfl, rfl, hc, hcl⟩
  · have hxs : xs = [] := List.eq_nil_of_length_eq_zero (by simpa using hl)
    subst hxs
    have := YAppend.both (Γ := Γ) (L := P ++ none :: t :: L0) (ty := ty) (tx := tx) (x := x) (olds := []) (base := none) (n := 0) (cap := 0) (m := m) (ys := ys) (K := fun v' L' => ∃ g cap' junk, v' = .slice (some ⟨g, 0, none⟩) (0 + m) cap' ∧ 0 + m ≤ cap' ∧ junk.length = (cap' - (0 + m)) * sz ∧ L' = some (g, .cells ([] ++ ys ++ junk).toArray e (0, 0)) :: (P ++ none :: t :: L0)) hel hz hzl hsrc (by simp) (by simp) (fun _ => rfl) hb hb0 (fun h => absurd h (by omega)) (fun _ g cap' junk h1 h2 => ⟨g, cap', junk, rfl, h1, h2, rfl⟩) w hi
    obtain ⟨v, w', L', h1, h2, g, cap', junk, rfl, h3, h4, rfl⟩ := this
    refine ⟨_, w', _, h1, dropS _ _ _ (mid _ _ _ h2), hK _ _ _ ⟨hlen, .inr ⟨g, cap', junk, rfl, rfl, h3, ?_⟩⟩ ?_⟩
    · rw [List.length_append, hlen, h4, ← Nat.add_mul]
      congr 1
      omega
    · refine ⟨hVt, ?_⟩
      rcases hV with h | ⟨gv, cb, e1, e2, ⟨c3, e3, _⟩ | h⟩
      · exact .inl h
      · cases e3
      · exact .inr ⟨gv, cb, e1, e2, .inr h⟩
  · have hcell : ∀ j u, xs[j]? = some u → ∃ a, (some ⟨g, 0, none⟩ : Option Addr) = some a ∧ Cell Γ (P ++ some (g, .cells (xs ++ junk).toArray e (0, 0)) :: t :: L0) (a.add j) u := fun j u hj => by
      obtain ⟨a, c, he, _, hc⟩ := hr0.cell (Γ := Γ) hL hj
      injection he with e1
      exact ⟨a, e1, hc⟩
    have hjl : junk.length = (cap - n) * sz := by
      rw [List.length_append, hl] at hcl
      have : cap * sz = n * sz + (cap - n) * sz := by rw [← Nat.add_mul]; congr 1; omega
      omega
    have := YAppend.both (Γ := Γ) (L := P ++ some (g, .cells (xs ++ junk).toArray e (0, 0)) :: t :: L0) (ty := ty) (tx := tx) (x := x) (olds := xs) (base := some ⟨g, 0, none⟩) (cap := cap) (n := n) (m := m) (ys := ys)
      (K := fun v' L' => (n + m ≤ cap ∧ v' = .slice (some ⟨g, 0, none⟩) (n + m) cap ∧ L' = (P ++ some (g, .cells (xs ++ junk).toArray e (0, 0)) :: t :: L0).set P.length (some (g, .cells (setN (xs ++ junk) (0 + n * sz) ys).toArray e (0, 0)))) ∨
        ∃ g' cap' junk', v' = .slice (some ⟨g', 0, none⟩) (n + m) cap' ∧ n + m ≤ cap' ∧ junk'.length = (cap' - (n + m)) * sz ∧ L' = some (g', .cells (xs ++ ys ++ junk').toArray e (0, 0)) :: (P ++ some (g, .cells (xs ++ junk).toArray e (0, 0)) :: t :: L0))
      hel hz hzl hsrc hl hcell (fun h => by cases h) hb hb0
      (fun h => .inl ⟨⟨g, 0, none⟩, rfl, rfl, P.length, xs ++ junk, e, (0, 0), hL, by
        simp only [Nat.zero_add]
        rw [hcl, hyl, ← Nat.add_mul]
        exact Nat.mul_le_mul_right _ h, .inr (Nat.zero_le _), .inl ⟨h, rfl, rfl⟩⟩)
      (fun _ g' cap' junk' h1 h2 => .inr ⟨g', cap', junk', rfl, h1, h2, rfl⟩) w hi
    obtain ⟨v, w', L', h1, h2, ⟨h3, rfl, rfl⟩ | ⟨g', cap', junk', rfl, h3, h4, rfl⟩⟩ := this
    · rw [set_mid] at h2
      refine ⟨_, w', _, h1, h2, hK _ _ _ ⟨hlen, .inr ⟨g, cap, junk.drop ys.length, rfl, ?_, h3, ?_⟩⟩ ?_⟩
      · have hset := setN_app ys xs junk (by
          rw [hyl, hjl]
          exact Nat.mul_le_mul_right _ (by omega))
        rw [hl] at hset
        rw [Nat.zero_add, hset]
      · rw [List.length_append, hlen, List.length_drop, hyl, hjl, ← Nat.sub_mul, ← Nat.add_mul]
        congr 1
        omega
      · refine ⟨hVt, ?_⟩
        rcases hV with h | ⟨gv, cb, e1, e2, ⟨c3, e3, e4⟩ | h⟩
        · exact .inl h
        · simp only [Value.slice.injEq, Option.some.injEq, Addr.mk.injEq, and_true, true_and] at e3
          obtain ⟨rfl, rfl⟩ := e3
          exact .inr ⟨_, cb, e1, e2, .inl ⟨_, rfl, e4.trans (List.prefix_append _ _)⟩⟩
        · exact .inr ⟨gv, cb, e1, e2, .inr h⟩
    · have hrow' : Row e sz (.slice (some ⟨g', 0, none⟩) (n + m) cap') (n + m) (xs ++ ys) (some (g', .cells (xs ++ ys ++ junk').toArray e (0, 0))) := ⟨hlen, .inr ⟨g', cap', junk', rfl, rfl, h3, by
        rw [List.length_append, hlen, h4, ← Nat.add_mul]
        congr 1
        omega⟩⟩
      have h5 := mid _ _ _ h2
      rcases hV with h | ⟨gv, cb, e1, e2, ⟨c3, e3, e4⟩ | h⟩
      · exact ⟨_, w', _, h1, dropS _ _ _ h5, hK _ _ _ hrow' ⟨hVt, .inl h⟩⟩
      · simp only [Value.slice.injEq, Option.some.injEq, Addr.mk.injEq, and_true, true_and] at e3
        obtain ⟨rfl, rfl⟩ := e3
        exact ⟨_, w', _, h1, dropT _ _ _ h5, hK _ _ _ hrow' ⟨fun b o h => by cases h; exact ⟨_, _, rfl⟩, .inr ⟨_, cb, e1, e2, .inr ⟨_, _, _, rfl, e4.trans (List.prefix_append _ _)⟩⟩⟩⟩
      · exact ⟨_, w', _, h1, dropS _ _ _ h5, hK _ _ _ hrow' ⟨hVt, .inr ⟨gv, cb, e1, e2, .inr h⟩⟩⟩
/-- At the start the row is the slice itself. -/
theorem View.self {e sz : Nat} {v : Value} {l : List α} {s : Slot} (h : RowL f e sz v l s) : View f e v l v none l.length (l.flatMap f) := by
  refine ⟨fun b o h => (by cases h), ?_⟩
  cases l with
  | nil => exact .inl rfl
  | cons x l =>
    obtain ⟨g, cap, junk, rfl, rfl, hc, _⟩ := RowL.form h (by simp)
    exact .inr ⟨g, cap, rfl, hc, .inl ⟨cap, rfl, List.prefix_refl _⟩⟩
theorem View.sl {e sz n : Nat} {v vb : Value} {lb : List α} {s t : Slot} {xs : List Value} {P L0 : Hp} (hf : ∀ x, (f x).length = sz) (h : View f e vb lb v t n xs) (hr : Row e sz v n xs s) (hvb : ∃ A c, vb = .slice A lb.length c ∧ lb.length ≤ c) : SlS sz f (Cell Γ (P ++ s :: t :: L0)) vb lb := by
  obtain ⟨A, c, rfl, hc⟩ := hvb
  refine ⟨A, c, rfl, hc, fun j x hj => ?_⟩
  obtain ⟨_, h⟩ := h
  rcases h with rfl | ⟨g, cb, e1, e2, h⟩
  · simp at hj
  cases e1
  refine ⟨_, rfl, fun i u hu => ?_⟩
  have hi : i < sz := by rw [← hf x]; exact (List.getElem?_eq_some_iff.1 hu).1
  have hflat : (lb.flatMap f)[j * sz + i]? = some u := by rw [flat_at hf hj hi]; exact hu
  have pre : ∀ {cs : List Value}, lb.flatMap f <+: cs → cs[j * sz + i]? = some u := fun {cs} hp => by
    obtain ⟨r, rfl⟩ := hp
    rw [List.getElem?_append_left (List.getElem?_eq_some_iff.1 hflat).1]; exact hflat
  rw [add_addS, Addr.add_lit, Nat.zero_add]
  rcases h with ⟨cap, rfl, hp⟩ | ⟨cs, ty, fr, rfl, hp⟩
  · obtain ⟨_, ⟨e3, _, _⟩ | ⟨g', cap', junk, e3, rfl, _, _⟩⟩ := hr
    · cases e3
    · cases e3
      refine Cell.at (xs := xs ++ junk) (t := e) (fr := (0, 0)) P.length (by simp) ?_
      exact pre (hp.trans (List.prefix_append _ _))
  · refine Cell.at (xs := cs) (t := ty) (fr := fr) (P.length + 1) (by simp) ?_
    exact pre hp
/-- append(v, x), x a literal at the head. -/
theorem YAppend.rowV1 {ty e sz by_ b : Nat} {z : List Value} {v vb : Value} {lb l : List α} {x : α} {p1 p2 s t : Slot} {L0 : Hp} {fr : Nat × Nat} {K : Value → Hp → Prop}
    (hel : elS Γ.P ty = some (e, sz, by_)) (hz : zr Γ.P e = some z) (hzl : z.length = sz) (hf : (f x).length = sz) (h1 : oneB (f x) = true) (hr : RowL f e sz v l s) (hV : View f e vb lb v t l.length (l.flatMap f))
    (hb : (l.length + 1) * by_ ≤ 140737488355328) (hb0 : 0 < by_)
    (hK : ∀ v' s' t', RowL f e sz v' (l ++ [x]) s' → View f e vb lb v' t' (l ++ [x]).length ((l ++ [x]).flatMap f) → K v' (some (b, .cells (f x).toArray e fr) :: p1 :: p2 :: s' :: t' :: L0)) :
    YAppend Γ ty ty v (.slice (some ⟨b, 0, none⟩) 1 1) (some (b, .cells (f x).toArray e fr) :: p1 :: p2 :: s :: t :: L0) K := by
  refine YAppend.rowV (P := [some (b, .cells (f x).toArray e fr), p1, p2]) (L0 := L0) (ys := f x) (m := 1) hel hz hzl hr hV (SrcV.lit (ys := f x) (by rw [hel]; rfl) (by rw [hf]; omega) h1) (by rw [hf]; omega) (by decide) hb hb0 fun v' s' t' hr' hV' => ?_
  have e1 : (l ++ [x]).flatMap f = l.flatMap f ++ f x := by rw [List.flatMap_append]; simp
  refine hK v' s' t' ?_ ?_
  · show Row e sz v' (l ++ [x]).length ((l ++ [x]).flatMap f) s'
    rw [e1, List.length_append]; exact hr'
  · rw [e1, List.length_append]; exact hV'
theorem Less.mid2 (a b : Slot) (L : Hp) : Less (a :: b :: L) (a :: b :: Option.none :: L) := (Less.none _).trans (Less.perm (List.perm_middle (l₁ := [a, b])).symm)
end
end Go.SX
