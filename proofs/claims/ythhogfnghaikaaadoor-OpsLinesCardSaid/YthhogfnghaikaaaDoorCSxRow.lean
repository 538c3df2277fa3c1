/- A part of the proof of OpsLinesCardSaid. -/
import Derived.Test.YthhogfnghaikaaaDoorCSxMore
import Derived.Deep.AppendSrc
import Derived.Deep.Upon
set_option linter.unusedVariables false
set_option linter.unusedSimpArgs false
namespace Go.SX
open Go.RowKit
section
variable {Γ : Ctx} {L : Hp}

theorem setN_app : ∀ (vs A B : List Value), vs.length ≤ B.length → setN (A ++ B) A.length vs = A ++ vs ++ B.drop vs.length := by
  intro vs
  induction vs with
  | nil => intro A B _; simp [setN]
  | cons v vs ih =>
    intro A B hl
    cases B with
    | nil => simp at hl
    | cons b B =>
      simp only [setN]
      have e : (A ++ b :: B).set A.length v = (A ++ [v]) ++ B := by simp
      rw [e, show A.length + 1 = (A ++ [v]).length by simp, ih (A ++ [v]) B (by simpa using hl)]
      simp

/-- What is appended. -/
def SrcV (Γ : Ctx) (L : Hp) (sz : Nat) (tx : TypeId) (x : Value) (m : Nat) (ys : List Value) : Prop := ∀ w, Inv Γ L w → Src Γ.P sz tx x m ys w
theorem SrcV.slice {sz : Nat} {tx : TypeId} {a : Addr} {m c : Nat} {ys : List Value} (ht : (elS Γ.P tx).isSome = true) (hl : ys.length = m * sz) (h : ∀ j u, ys[j]? = some u → Cell Γ L (a.add j) u) (h1 : oneB ys = true) :
    SrcV Γ L sz tx (.slice (some a) m c) m ys := fun w hi => by
  obtain ⟨e, he⟩ := elS_isSome ht
  exact Src.ofSlice w he a m c ys hl (fun j u hj => (h j u hj).real hi) (fun u hu => List.all_eq_true.1 h1 u hu)
theorem SrcV.nil {sz : Nat} {tx : TypeId} {c : Nat} (ht : (elS Γ.P tx).isSome = true) : SrcV Γ L sz tx (.slice none 0 c) 0 [] := fun w hi => by
  obtain ⟨e, he⟩ := elS_isSome ht
  exact Src.ofNil w he c
/-- A literal that was just made. -/
theorem SrcV.lit {sz : Nat} {tx : TypeId} {b m c : Nat} {e : TypeId} {fr : Nat × Nat} {ys : List Value} (ht : (elS Γ.P tx).isSome = true) (hl : ys.length = m * sz) (h1 : oneB ys = true) :
    SrcV Γ (some (b, .cells ys.toArray e fr) :: L) sz tx (.slice (some ⟨b, 0, none⟩) m c) m ys :=
  SrcV.slice ht hl (fun j u hj => by
    rw [Addr.add_lit, Nat.zero_add]
    exact Cell.own 0 rfl (by simpa using hj)) h1
theorem SrcV.str {tx : TypeId} {s : ByteArray} (ht : Γ.P.underlying tx = some .string) : SrcV Γ L 1 tx (.string s) s.size (bytesV s) := fun w hi => Src.ofString w ht s

theorem zeroCells_eq (z : List Value) (k : Nat) : (Builtin.zeroCells z.toArray k).toList.length = k * z.length := by
  simp [Builtin.zeroCells]

/-- Both ways of an append: into the room behind, and into new memory. -/
theorem YAppend.both {ty tx e : TypeId} {sz by_ : Nat} {z : List Value} {base : Option Addr} {n cap : Nat} {x : Value} {m : Nat} {olds ys : List Value} {K : Value → Hp → Prop}
    (hel : elS Γ.P ty = some (e, sz, by_)) (hz : zr Γ.P e = some z) (hzl : z.length = sz) (hsrc : SrcV Γ L sz tx x m ys) (hol : olds.length = n * sz)
    (hold : ∀ j u, olds[j]? = some u → ∃ a, base = some a ∧ Cell Γ L (a.add j) u) (hn0 : base = none → n = 0) (hb : (n + m) * by_ ≤ 140737488355328) (hb0 : 0 < by_)
    (hin : n + m ≤ cap → (∃ ad, base = some ad ∧ ad.spot = none ∧ ∃ (i : Nat) (cs : List Value) (t' : TypeId) (fr : Nat × Nat), L[i]? = some (some (ad.block, .cells cs.toArray t' fr)) ∧ ad.off + n * sz + ys.length ≤ cs.length ∧
        (ad.off + n * sz + ys.length ≤ fr.1 ∨ fr.2 ≤ ad.off + n * sz) ∧ K (.slice base (n + m) cap) (L.set i (some (ad.block, .cells (setN cs (ad.off + n * sz) ys).toArray t' fr)))) ∨ (m = 0 ∧ K (.slice base (n + m) cap) L))
    (hgrow : cap < n + m → ∀ g cap' junk, n + m ≤ cap' → junk.length = (cap' - (n + m)) * sz → K (.slice (some ⟨g, 0, none⟩) (n + m) cap') (some (g, .cells (olds ++ ys ++ junk).toArray e (0, 0)) :: L)) :
    YAppend Γ ty tx (.slice base n cap) x L K := by
  intro w hi
  obtain ⟨hu, i0, hi1, hi2, hi3⟩ := elS_some hel
  obtain ⟨vz, hvz, hzc⟩ := Option.map_eq_some_iff.1 (show ((Γ.P.info? e).bind (·.zero)).map (fun v => v.cells.toList) = some z from hz)
  obtain ⟨i', hi', hz'⟩ := Option.bind_eq_some_iff.1 hvz
  rw [hi1] at hi'
  cases hi'
  have hs : Src Γ.P i0.size tx x m ys w := by rw [hi2]; exact hsrc w hi
  have hle : n + m ≤ 140737488355328 := Nat.le_trans (Nat.le_mul_of_pos_right _ hb0) hb
  by_cases hcap : n + m ≤ cap
  · rcases hin hcap with ⟨ad, rfl, hsp, i, cs, t', fr, hL, hlen, hfr, hk⟩ | ⟨rfl, hk⟩
    · obtain ⟨b, off, sp⟩ := ad
      simp only at hsp
      subst hsp
      have hblk := hi.blk _ _ (List.mem_of_getElem? hL)
      simp only at hblk hlen hfr hk hL
      have hrun := run_append_room_src (P := Γ.P) w ty tx ty e i0 hu hi1 b off n cap x m ys hs hcap
        (fun j hj => by simp [World.cell?, hblk, hi2]; omega)
        (fun j hj => by simp only [World.frozen?, hblk, hi2, Bool.and_eq_false_iff, decide_eq_false_iff_not]; omega)
      obtain ⟨w', hr, h2, h3, h4, h5, h6, h7⟩ := run_storeCells (P := Γ.P) ys w b (off + n * sz) 0 cs t' fr hblk (by simpa using hlen) (by simpa using hfr) (by simpa [oneB] using hs.one)
      have hst := run_storeCells_cells (P := Γ.P) b (off + n * i0.size) ys 0 w (by intro j hj; simp [World.cell?, hblk, hi2]; omega) (by intro j hj; simp only [World.frozen?, hblk, hi2, Bool.and_eq_false_iff, decide_eq_false_iff_not]; omega) hs.one
      simp only [Nat.add_zero, hi2] at hst
      rw [hr] at hst
      have hw' : w' = w.setCells b (off + n * sz) ys := by injection hst
      refine ⟨_, w', _, fun t => ?_, hi.set hL (by simpa using h2) h3 h4 h5 h6 h7, hk⟩
      have hrun' := run_append_room_src (P := Γ.P) w ty tx t e i0 hu hi1 b off n cap x m ys hs hcap
        (fun j hj => by simp [World.cell?, hblk, hi2]; omega)
        (fun j hj => by simp only [World.frozen?, hblk, hi2, Bool.and_eq_false_iff, decide_eq_false_iff_not]; omega)
      rw [hrun', hw', hi2]
    · have hys : ys = [] := List.eq_nil_of_length_eq_zero (by have := hs.newsLen; simpa using this)
      subst hys
      exact ⟨_, w, L, fun t => run_append_nothing w ty tx t e i0 hu hi1 base n cap (by omega) x hs, hi, hk⟩
  · have hg : cap < n + m := by omega
    have hvc : vz.cells = z.toArray := by rw [← hzc]
    have hold' : (Builtin.firstCells i0.size n (.slice base n cap)).run Γ.P w.drew = .ok olds.toArray w.drew := by
      cases base with
      | none =>
        have h0 := hn0 rfl
        subst h0
        have : olds = [] := List.eq_nil_of_length_eq_zero (by simpa using hol)
        subst this
        exact run_firstCells_none w.drew i0.size 0 0 cap
      | some a =>
        refine run_firstCells_some w.drew i0.size n a n cap olds (by rw [hi2]; exact hol) (fun j u hj => ?_)
        obtain ⟨a', ha', hc⟩ := hold j u hj
        cases ha'
        exact hc.real hi.drew
    have hfit : Builtin.nextslicecap (n + m) cap * i0.bytes ≤ 281474976710656 := by rw [hi3]; exact growslice_fits hg hb
    refine ⟨_, _, _, fun t => run_append_grow_src (P := Γ.P) w ty tx t e i0 vz hu hi1 hz' base n cap olds hold' x m ys hs hg (by omega) hfit, hi.drew.alloc _, ?_⟩
    have hc1 : n + m ≤ grownCap w (n + m) cap e := by unfold grownCap Question.cut; exact Nat.le_add_right _ _
    have := hgrow hg w.heap.size (grownCap w (n + m) cap e) (Builtin.zeroCells z.toArray (grownCap w (n + m) cap e - (n + m))).toList hc1 (by rw [zeroCells_eq, hzl])
    have e1 : (olds ++ ys).toArray ++ Builtin.zeroCells vz.cells (grownCap w (n + m) cap e - (n + m)) = (olds ++ ys ++ (Builtin.zeroCells z.toArray (grownCap w (n + m) cap e - (n + m))).toList).toArray := by
      rw [hvc]
      apply Array.ext'
      simp
    rw [e1]
    exact this

/-- A slice of one's own: v has n elements of type e (sz cells each), whose cells are xs; s: the slot of its block. -/
def Row (e sz : Nat) (v : Value) (n : Nat) (xs : List Value) (s : Slot) : Prop :=
  xs.length = n * sz ∧ ((v = .slice none 0 0 ∧ n = 0 ∧ s = none) ∨ ∃ g cap junk, v = .slice (some ⟨g, 0, none⟩) n cap ∧ s = some (g, .cells (xs ++ junk).toArray e (0, 0)) ∧ n ≤ cap ∧ (xs ++ junk).length = cap * sz)
theorem Row.nil (e sz : Nat) : Row e sz (.slice none 0 0) 0 [] none := ⟨by simp, .inl ⟨rfl, rfl, rfl⟩⟩
theorem Row.lit {e sz b n : Nat} {xs : List Value} (h : xs.length = n * sz) : Row e sz (.slice (some ⟨b, 0, none⟩) n n) n xs (some (b, .cells xs.toArray e (0, 0))) :=
  ⟨h, .inr ⟨b, n, [], rfl, by simp, Nat.le_refl _, by simpa using h⟩⟩
theorem Row.cell {e sz n i : Nat} {v : Value} {xs : List Value} {s : Slot} (h : Row e sz v n xs s) (hL : L[i]? = some s) {j : Nat} {u : Value} (hj : xs[j]? = some u) :
    ∃ a c, v = .slice (some a) n c ∧ a.spot = none ∧ Cell Γ L (a.add j) u := by
  obtain ⟨hl, ⟨rfl, rfl, rfl⟩ | ⟨g, cap, junk, rfl, rfl, hc, hlen⟩⟩ := h
  · simp at hl; subst hl; simp at hj
  · refine ⟨⟨g, 0, none⟩, cap, rfl, rfl, ?_⟩
    rw [Addr.add_lit, Nat.zero_add]
    refine Cell.own i hL ?_
    have hlt := (List.getElem?_eq_some_iff.1 hj).1
    simp [List.getElem?_append_left hlt, hj]
theorem Row.form {e sz n : Nat} {v : Value} {xs : List Value} {s : Slot} (h : Row e sz v n xs s) : ∃ A c, v = .slice A n c ∧ n ≤ c ∧ xs.length = n * sz := by
  obtain ⟨hl, ⟨rfl, rfl, rfl⟩ | ⟨g, cap, junk, rfl, rfl, hc, hlen⟩⟩ := h
  · exact ⟨none, 0, rfl, Nat.le_refl _, hl⟩
  · exact ⟨_, cap, rfl, hc, hl⟩

/-- append to a slice of one's own. -/
theorem YAppend.row {ty tx e : TypeId} {sz by_ : Nat} {z : List Value} {v x : Value} {n m i : Nat} {xs ys : List Value} {s : Slot} {K : Value → Hp → Prop}
    (hel : elS Γ.P ty = some (e, sz, by_)) (hz : zr Γ.P e = some z) (hzl : z.length = sz) (hL : L[i]? = some s) (hr : Row e sz v n xs s) (hsrc : SrcV Γ L sz tx x m ys) (hyl : ys.length = m * sz)
    (hb : (n + m) * by_ ≤ 140737488355328) (hb0 : 0 < by_) (hK : ∀ v' s', Row e sz v' (n + m) (xs ++ ys) s' → K v' (L.set i s')) : YAppend Γ ty tx v x L K := by
  have hr0 := hr
  obtain ⟨hl, hform⟩ := hr
  have hlen : (xs ++ ys).length = (n + m) * sz := by rw [List.length_append, hl, hyl, Nat.add_mul]
  rcases hform with ⟨rfl, rfl, rfl⟩ | ⟨g, cap, junk, rfl, rfl, hc, hcl⟩
  · have hxs : xs = [] := List.eq_nil_of_length_eq_zero (by simpa using hl)
    subst hxs
    intro w hi
    rcases Nat.eq_zero_or_pos m with hm | hm
    · subst hm
      have hys : ys = [] := List.eq_nil_of_length_eq_zero (by simpa using hyl)
      subst hys
      have := YAppend.both (Γ := Γ) (L := L) (ty := ty) (tx := tx) (x := x) (olds := []) (base := none) (n := 0) (cap := 0) (K := fun v' L' => v' = .slice none 0 0 ∧ L' = L) hel hz hzl hsrc (by simp) (by simp) (fun _ => rfl) hb hb0 (fun _ => .inr ⟨rfl, rfl, rfl⟩) (fun h => absurd h (by omega)) w hi
      obtain ⟨v, w', L', h1, h2, rfl, rfl⟩ := this
      have hk := hK _ none (Row.nil e sz)
      refine ⟨_, w', _, h1, ?_, hk⟩
      have e0 : L'.set i none = L' := by
        apply List.ext_getElem?
        intro j
        rw [List.getElem?_set]
        split
        · rename_i hij; subst hij; rw [hL]; split <;> simp_all
        · rfl
      rw [e0]
      exact h2
    · have := YAppend.both (Γ := Γ) (L := L) (ty := ty) (tx := tx) (x := x) (olds := []) (base := none) (n := 0) (cap := 0) (m := m) (ys := ys) (K := fun v' L' => ∃ g cap' junk, v' = .slice (some ⟨g, 0, none⟩) (0 + m) cap' ∧ 0 + m ≤ cap' ∧ junk.length = (cap' - (0 + m)) * sz ∧ L' = some (g, .cells ([] ++ ys ++ junk).toArray e (0, 0)) :: L) hel hz hzl hsrc (by simp) (by simp) (fun _ => rfl) hb hb0 (fun h => absurd h (by omega)) (fun _ g cap' junk h1 h2 => ⟨g, cap', junk, rfl, h1, h2, rfl⟩) w hi
      obtain ⟨v, w', L', h1, h2, g, cap', junk, rfl, h3, h4, rfl⟩ := this
      refine ⟨_, w', _, h1, h2.put i, hK _ _ ⟨hlen, .inr ⟨g, cap', junk, rfl, rfl, h3, ?_⟩⟩⟩
      rw [List.length_append, hlen, h4, ← Nat.add_mul]
      congr 1
      omega
  · intro w hi
    have hcell : ∀ j u, xs[j]? = some u → ∃ a, (some ⟨g, 0, none⟩ : Option Addr) = some a ∧ Cell Γ L (a.add j) u := fun j u hj => by
      obtain ⟨a, c, he, _, hc⟩ := hr0.cell (Γ := Γ) hL hj
      injection he with e1
      exact ⟨a, e1, hc⟩
    have hjl : junk.length = (cap - n) * sz := by
      rw [List.length_append, hl] at hcl
      have : cap * sz = n * sz + (cap - n) * sz := by rw [← Nat.add_mul]; congr 1; omega
      omega
    have := YAppend.both (Γ := Γ) (L := L) (ty := ty) (tx := tx) (x := x) (olds := xs) (base := some ⟨g, 0, none⟩) (cap := cap) (n := n) (m := m) (ys := ys) (K := fun v' L' => (n + m ≤ cap ∧ v' = .slice (some ⟨g, 0, none⟩) (n + m) cap ∧ L' = L.set i (some (g, .cells (setN (xs ++ junk) (0 + n * sz) ys).toArray e (0, 0)))) ∨ ∃ g' cap' junk', v' = .slice (some ⟨g', 0, none⟩) (n + m) cap' ∧ n + m ≤ cap' ∧ junk'.length = (cap' - (n + m)) * sz ∧ L' = some (g', .cells (xs ++ ys ++ junk').toArray e (0, 0)) :: L)
      hel hz hzl hsrc hl hcell (fun h => by cases h) hb hb0
      (fun h => .inl ⟨⟨g, 0, none⟩, rfl, rfl, i, xs ++ junk, e, (0, 0), hL, by
        simp only [Nat.zero_add]
        rw [hcl, hyl, ← Nat.add_mul]
        exact Nat.mul_le_mul_right _ h, .inr (Nat.zero_le _), .inl ⟨h, rfl, rfl⟩⟩)
      (fun _ g' cap' junk' h1 h2 => .inr ⟨g', cap', junk', rfl, h1, h2, rfl⟩) w hi
    obtain ⟨v, w', L', h1, h2, ⟨h3, rfl, rfl⟩ | ⟨g', cap', junk', rfl, h3, h4, rfl⟩⟩ := this
    · refine ⟨_, w', _, h1, h2, hK _ _ ⟨hlen, .inr ⟨g, cap, junk.drop ys.length, rfl, ?_, h3, ?_⟩⟩⟩
      · have hset := setN_app ys xs junk (by
          rw [hyl, hjl]
          exact Nat.mul_le_mul_right _ (by omega))
        rw [hl] at hset
        rw [Nat.zero_add, hset]
      · rw [List.length_append, hlen, List.length_drop, hyl, hjl, ← Nat.sub_mul, ← Nat.add_mul]
        congr 1
        omega
    · refine ⟨_, w', _, h1, h2.put i, hK _ _ ⟨hlen, .inr ⟨g', cap', junk', rfl, rfl, h3, ?_⟩⟩⟩
      rw [List.length_append, hlen, h4, ← Nat.add_mul]
      congr 1
      omega

/-- A row reads as a slice. -/
theorem Row.sl {α : Type} {e sz n i : Nat} {v : Value} {xs : List Value} {s : Slot} {R : (Addr → Value → Prop) → Addr → α → Prop} {l : List α} (h : Row e sz v n xs s) (hL : L[i]? = some s) (hn : l.length = n)
    (hR : ∀ (C : Addr → Value → Prop) (j : Nat) (x : α) (a : Addr), l[j]? = some x → (∀ k, k < sz → ∀ u, xs[j * sz + k]? = some u → C (a.add k) u) → R C a x) : Sl sz R (Cell Γ L) v l := by
  obtain ⟨A, c, rfl, hc, hl⟩ := h.form
  refine ⟨A, c, by rw [hn], by omega, fun j x hj => ?_⟩
  have hjn : j < n := by have := (List.getElem?_eq_some_iff.1 hj).1; omega
  have hA : ∃ a, A = some a := by
    obtain ⟨_, ⟨e1, rfl, _⟩ | ⟨g, cap, junk, e1, _⟩⟩ := h
    · omega
    · injection e1 with e1; exact ⟨_, e1⟩
  obtain ⟨a, rfl⟩ := hA
  refine ⟨a, rfl, hR _ j x _ hj fun k hk u hu => ?_⟩
  obtain ⟨a', c', e1, _, hcell⟩ := h.cell (Γ := Γ) hL hu
  injection e1 with e1 _ _
  injection e1 with e1
  subst e1
  rwa [add_addS]
end
end Go.SX
