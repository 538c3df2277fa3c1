/- A part of the proof of OpsLinesCardSaid. -/
import Derived.Test.YthhogfnghaikaaaDoorCSxRowS
import Derived.Test.YthhogfnghaikaaaDoorCSxNum
import Derived.Test.YthhogfnghaikaaaDoorCSxOpen
import Derived.Test.YthhogfnghaikaaaDoorCSxView
set_option linter.unusedVariables false
set_option linter.unusedSimpArgs false
/-! copy(dst, src): cells, whole numbers, structs; cells that stay where a slot changes. -/
namespace Go.SX
open Go.RowKit Go.ChangeShapes Go.WideShapes Go.ChangeAt
section
variable {Γ : Ctx} {L : Hp}
theorem RowI.form2 {k : IntKind} {e : TypeId} {v : Value} {l : List Int} {s : Slot} (h : RowI k e v l s) (hl : 0 < l.length) :
    ∃ r cap junk, v = .slice (some ⟨r, 0, none⟩) l.length cap ∧ s = some (r, .cells (SX.ints k l ++ junk).toArray e (0, 0)) ∧ l.length ≤ cap ∧ l.length + junk.length = cap := by
  obtain ⟨_, ⟨_, hn, _⟩ | ⟨r, cap, junk, h1, h2, h3, h4⟩⟩ := h
  · omega
  · refine ⟨r, cap, junk, h1, h2, h3, ?_⟩
    rw [List.length_append, ints_length] at h4
    omega
theorem RowI.mk2 {k : IntKind} {e : TypeId} {l : List Int} {r cap : Nat} {junk : List Value} (hc : l.length ≤ cap) (hj : l.length + junk.length = cap) :
    RowI k e (.slice (some ⟨r, 0, none⟩) l.length cap) l (some (r, .cells (SX.ints k l ++ junk).toArray e (0, 0))) :=
  ⟨by rw [ints_length, Nat.mul_one], .inr ⟨r, cap, junk, rfl, rfl, hc, by rw [List.length_append, ints_length]; omega⟩⟩
/-- As YAppend.both, with the capacity's bound: both ways of an append: into the room behind, and into new memory. -/
theorem YAppend.bothM {ty tx e : TypeId} {sz by_ : Nat} {z : List Value} {base : Option Addr} {n cap : Nat} {x : Value} {m : Nat} {olds ys : List Value} {K : Value → Hp → Prop}
    (hel : elS Γ.P ty = some (e, sz, by_)) (hz : zr Γ.P e = some z) (hzl : z.length = sz) (hsrc : SrcV Γ L sz tx x m ys) (hol : olds.length = n * sz)
    (hold : ∀ j u, olds[j]? = some u → ∃ a, base = some a ∧ Cell Γ L (a.add j) u) (hn0 : base = none → n = 0) (hb : (n + m) * by_ ≤ 140737488355328) (hb0 : 0 < by_)
    (hin : n + m ≤ cap → (∃ ad, base = some ad ∧ ad.spot = none ∧ ∃ (i : Nat) (cs : List Value) (t' : TypeId) (fr : Nat × Nat), L[i]? = some (some (ad.block, .cells cs.toArray t' fr)) ∧ ad.off + n * sz + ys.length ≤ cs.length ∧
        (ad.off + n * sz + ys.length ≤ fr.1 ∨ fr.2 ≤ ad.off + n * sz) ∧ K (.slice base (n + m) cap) (L.set i (some (ad.block, .cells (setN cs (ad.off + n * sz) ys).toArray t' fr)))) ∨ (m = 0 ∧ K (.slice base (n + m) cap) L))
    (hgrow : cap < n + m → ∀ g cap' junk, n + m ≤ cap' → cap' ≤ maxLen → junk.length = (cap' - (n + m)) * sz → K (.slice (some ⟨g, 0, none⟩) (n + m) cap') (some (g, .cells (olds ++ ys ++ junk).toArray e (0, 0)) :: L)) :
    YAppend Γ ty tx (.slice base n cap) x L K := by
  intro w hi
  obtain ⟨hu, i0, hi1, hi2, hi3⟩ := elS_some hel
  obtain ⟨vz, hvz, hzc⟩ := Option.map_eq_some_iff.1 (show ((Γ.P.info? e).bind (·.zero)).map (fun v => v.cells.toList) = some z from hz)
  obtain ⟨i', hi', hz'⟩ := Option.bind_eq_some_iff.1 hvz
  rw [hi1] at hi'
  cases hi'
  have hs : Src Γ.P i0.size tx x m ys w := by rw [hi2]; exact hsrc w hi
  have hle : n + m ≤ 140737488355328 := Nat.le_trans (Nat.le_mul_of_pos_right _ hb0) hb
  by_cases hcap : n + m ≤ cap
  · rcases hin hcap with ⟨ad, rfl, hsp, i, cs, t', fr, hL, hlen, hfr, hk⟩ | ⟨rfl, hk⟩
    · obtain ⟨b, off, sp⟩ := ad
      simp only at hsp
      subst hsp
      have hblk := hi.blk _ _ (List.mem_of_getElem? hL)
      simp only at hblk hlen hfr hk hL
      have hrun := run_append_room_src (P := Γ.P) w ty tx ty e i0 hu hi1 b off n cap x m ys hs hcap
        (fun j hj => by simp [World.cell?, hblk, hi2]; omega)
        (fun j hj => by simp only [World.frozen?, hblk, hi2, Bool.and_eq_false_iff, decide_eq_false_iff_not]; omega)
      obtain ⟨w', hr, h2, h3, h4, h5, h6, h7⟩ := run_storeCells (P := Γ.P) ys w b (off + n * sz) 0 cs t' fr hblk (by simpa using hlen) (by simpa using hfr) (by simpa [oneB] using hs.one)
      have hst := run_storeCells_cells (P := Γ.P) b (off + n * i0.size) ys 0 w (by intro j hj; simp [World.cell?, hblk, hi2]; omega) (by intro j hj; simp only [World.frozen?, hblk, hi2, Bool.and_eq_false_iff, decide_eq_false_iff_not]; omega) hs.one
      simp only [Nat.add_zero, hi2] at hst
      rw [hr] at hst
      have hw' : w' = w.setCells b (off + n * sz) ys := by injection hst
      refine ⟨_, w', _, fun t => ?_, hi.set hL (by simpa using h2) h3 h4 h5 h6 h7, hk⟩
      have hrun' := run_append_room_src (P := Γ.P) w ty tx t e i0 hu hi1 b off n cap x m ys hs hcap
        (fun j hj => by simp [World.cell?, hblk, hi2]; omega)
        (fun j hj => by simp only [World.frozen?, hblk, hi2, Bool.and_eq_false_iff, decide_eq_false_iff_not]; omega)
      rw [hrun', hw', hi2]
    · have hys : ys = [] := List.eq_nil_of_length_eq_zero (by have := hs.newsLen; simpa using this)
      subst hys
      exact ⟨_, w, L, fun t => run_append_nothing w ty tx t e i0 hu hi1 base n cap (by omega) x hs, hi, hk⟩
  · have hg : cap < n + m := by omega
    have hvc : vz.cells = z.toArray := by rw [← hzc]
    have hold' : (Builtin.firstCells i0.size n (.slice base n cap)).run Γ.P w.drew = .ok olds.toArray w.drew := by
      cases base with
      | none =>
        have h0 := hn0 rfl
        subst h0
        have : olds = [] := List.eq_nil_of_length_eq_zero (by simpa using hol)
        subst this
        exact run_firstCells_none w.drew i0.size 0 0 cap
      | some a =>
        refine run_firstCells_some w.drew i0.size n a n cap olds (by rw [hi2]; exact hol) (fun j u hj => ?_)
        obtain ⟨a', ha', hc⟩ := hold j u hj
        cases ha'
        exact hc.real hi.drew
    have hfit : Builtin.nextslicecap (n + m) cap * i0.bytes ≤ 281474976710656 := by rw [hi3]; exact growslice_fits hg hb
    refine ⟨_, _, _, fun t => run_append_grow_src (P := Γ.P) w ty tx t e i0 vz hu hi1 hz' base n cap olds hold' x m ys hs hg (by omega) hfit, hi.drew.alloc _, ?_⟩
    have hc1 : n + m ≤ grownCap w (n + m) cap e := by unfold grownCap Question.cut; exact Nat.le_add_right _ _
    have := hgrow hg w.heap.size (grownCap w (n + m) cap e) (Builtin.zeroCells z.toArray (grownCap w (n + m) cap e - (n + m))).toList hc1 (grownCap_le_maxLen w (n + m) cap e (by have : (maxLen : Nat) = 9223372036854775807 := rfl; omega)) (by rw [zeroCells_eq, hzl])
    have e1 : (olds ++ ys).toArray ++ Builtin.zeroCells vz.cells (grownCap w (n + m) cap e - (n + m)) = (olds ++ ys ++ (Builtin.zeroCells z.toArray (grownCap w (n + m) cap e - (n + m))).toList).toArray := by
      rw [hvc]
      apply Array.ext'
      simp
    rw [e1]
    exact this

/-- append(nil, xs..) of some. -/
theorem YAppend.fresh {k : IntKind} {ty e : TypeId} {by_ : Nat} {z : List Value} {x : Value} {m : List Int} {K : Value → Hp → Prop}
    (hel : elS Γ.P ty = some (e, 1, by_)) (hz : zr Γ.P e = some z) (hzl : z.length = 1) (hx : SlI k (Cell Γ L) x m) (hm : 0 < m.length)
    (hb : m.length * by_ ≤ 140737488355328) (hb0 : 0 < by_) (hK : ∀ g cap junk, m.length ≤ cap → cap ≤ maxLen → m.length + junk.length = cap → K (.slice (some ⟨g, 0, none⟩) m.length cap) (some (g, .cells (SX.ints k m ++ junk).toArray e (0, 0)) :: L)) : YAppend Γ ty ty (.slice none 0 0) x L K := by
  obtain ⟨A, c, rfl, hc, hA⟩ := hx
  obtain ⟨a, rfl, _⟩ := hA 0 m[0] (List.getElem?_eq_getElem hm)
  refine YAppend.bothM (olds := []) (ys := SX.ints k m) (m := m.length) hel hz hzl (SrcV.slice (by rw [hel]; rfl) (by rw [ints_length, Nat.mul_one]) (fun j u hj => ?_) (ints_oneB k m)) rfl (fun j u hj => by simp at hj) (fun _ => rfl) (by rw [Nat.zero_add]; exact hb) hb0 (fun h => by omega) (fun _ g cap' junk h1 h2 h3 => ?_)
  · rw [ints_at] at hj
    obtain ⟨x, hx, rfl⟩ := Option.map_eq_some_iff.1 hj
    obtain ⟨a', ha', hc'⟩ := hA j x hx
    cases ha'
    simpa [RInt] using hc'
  · rw [Nat.zero_add] at h1 h3 ⊢
    exact hK g cap' junk h1 h2 (by omega)
theorem YCopy.cells {ty tx e : TypeId} {sz by_ b off dn dc m c i : Nat} {A : Option Addr} {src cs : List Value} {t' : TypeId} {fr : Nat × Nat} {K : Value → Hp → Prop}
    (hel : elS Γ.P ty = some (e, sz, by_)) (hsl : src.length = m * sz) (hsrc : ∀ j u, src[j]? = some u → ∃ a, A = some a ∧ Cell Γ L (a.add j) u) (h1 : oneB src = true)
    (hL : L[i]? = some (some (b, .cells cs.toArray t' fr))) (hfit : off + min m dn * sz ≤ cs.length) (hfr : off + min m dn * sz ≤ fr.1 ∨ fr.2 ≤ off)
    (hk : K (.int .i64 ((min m dn : Nat) : Int)) (L.set i (some (b, .cells (setN cs off (src.take (min m dn * sz))).toArray t' fr)))) :
    YCopy Γ ty tx (.slice (some ⟨b, off, none⟩) dn dc) (.slice A m c) L K := by
  intro w hi
  obtain ⟨hu, i0, hi1, hi2, hi3⟩ := elS_some hel
  have hblk := hi.blk _ _ (List.mem_of_getElem? hL)
  have hlen : (src.take (min m dn * sz)).length = min m dn * sz := by
    rw [List.length_take, hsl]
    exact Nat.min_eq_left (Nat.mul_le_mul_right _ (Nat.min_le_left _ _))
  have hone : oneB (src.take (min m dn * sz)) = true := List.all_eq_true.2 fun u hu => List.all_eq_true.1 h1 u (List.mem_of_mem_take hu)
  have hf : (Builtin.firstCells i0.size (Nat.min m dn) (.slice A m c)).run Γ.P w = .ok (src.take (min m dn * sz)).toArray w := by
    cases hs : src with
    | nil =>
      cases A with
      | none => rw [List.take_nil]; exact run_firstCells_none w _ _ _ _
      | some a => exact run_firstCells_some w _ _ a m c _ (by rw [List.take_nil, hi2]; rw [hs, List.take_nil] at hlen; exact hlen) (fun j v hj => by simp at hj)
    | cons u0 us =>
      obtain ⟨a, rfl, _⟩ := hsrc 0 u0 (by rw [hs]; rfl)
      rw [← hs]
      refine run_firstCells_some w _ _ a m c _ (by rw [hi2]; exact hlen) (fun j v hj => ?_)
      rw [List.getElem?_take] at hj
      split at hj
      · obtain ⟨a', ha', hc⟩ := hsrc j v hj
        cases ha'
        exact hc.real hi
      · cases hj
  obtain ⟨w', hr, h2, h3, h4, h5, h6, h7⟩ := run_storeCells (P := Γ.P) (src.take (min m dn * sz)) w b off 0 cs t' fr hblk (by rw [hlen]; simpa using hfit) (by rw [hlen]; simpa using hfr) hone
  refine ⟨_, w', _, fun t => ?_, hi.set hL (by simpa using h2) h3 h4 h5 h6 h7, hk⟩
  simp [Builtin.copy_, run_underlying hu, Builtin.lenOf, sizeOf, typeInfo, hi1, hf, hr]
  rfl
theorem YCopy.ints {k : IntKind} {ty tx e : TypeId} {by_ b dn dc i : Nat} {x : Value} {l : List Int} {cs : List Value} {t' : TypeId} {fr : Nat × Nat} {K : Value → Hp → Prop}
    (hel : elS Γ.P ty = some (e, 1, by_)) (hx : SlI k (Cell Γ L) x l)
    (hL : L[i]? = some (some (b, .cells cs.toArray t' fr))) (hfit : min l.length dn ≤ cs.length) (hfr : min l.length dn ≤ fr.1 ∨ fr.2 ≤ 0)
    (hk : K (.int .i64 ((min l.length dn : Nat) : Int)) (L.set i (some (b, .cells (SX.ints k (l.take dn) ++ cs.drop (min l.length dn)).toArray t' fr)))) :
    YCopy Γ ty tx (.slice (some ⟨b, 0, none⟩) dn dc) x L K := by
  obtain ⟨A, c, rfl, hc, hA⟩ := hx
  refine YCopy.cells (i := i) (src := SX.ints k l) (off := 0) hel (by rw [ints_length, Nat.mul_one]) (fun j u hj => ?_) (ints_oneB k l) hL (by omega) (by omega) ?_
  · rw [ints_at] at hj
    obtain ⟨x, hx, rfl⟩ := Option.map_eq_some_iff.1 hj
    obtain ⟨a', ha', hc'⟩ := hA j x hx
    exact ⟨a', ha', by simpa [RInt] using hc'⟩
  · have e1 : (SX.ints k l).take (min l.length dn * 1) = SX.ints k (l.take dn) := by
      rw [Nat.mul_one]
      unfold SX.ints
      rw [← List.map_take]
      congr 1
      by_cases h : l.length ≤ dn
      · rw [Nat.min_eq_left h, List.take_of_length_le (Nat.le_refl _), List.take_of_length_le h]
      · rw [Nat.min_eq_right (by omega)]
    have hl2 : (SX.ints k (l.take dn)).length = min l.length dn := by rw [ints_length, List.length_take, Nat.min_comm]
    have e2 := setN_app (SX.ints k (l.take dn)) [] cs (by rw [hl2]; exact hfit)
    rw [hl2] at e2
    rw [e1]
    simp only [List.nil_append, List.length_nil] at e2
    rw [e2]
    exact hk
theorem YCopy.flat {α : Type} {f : α → List Value} {ty tx e : TypeId} {sz by_ b dn dc i : Nat} {x : Value} {l : List α} {cs : List Value} {t' : TypeId} {fr : Nat × Nat} {K : Value → Hp → Prop}
    (hf : ∀ x, (f x).length = sz) (h1 : ∀ x, oneB (f x) = true) (hel : elS Γ.P ty = some (e, sz, by_)) (hx : SlS sz f (Cell Γ L) x l)
    (hL : L[i]? = some (some (b, .cells cs.toArray t' fr))) (hdn : l.length ≤ dn) (hfit : l.length * sz ≤ cs.length) (hfr : l.length * sz ≤ fr.1 ∨ fr.2 ≤ 0)
    (hk : K (.int .i64 ((l.length : Nat) : Int)) (L.set i (some (b, .cells (l.flatMap f ++ cs.drop (l.length * sz)).toArray t' fr)))) :
    YCopy Γ ty tx (.slice (some ⟨b, 0, none⟩) dn dc) x L K := by
  obtain ⟨A, c, rfl, hc, hA⟩ := hx
  have hm : min l.length dn = l.length := Nat.min_eq_left hdn
  refine YCopy.cells (i := i) (src := l.flatMap f) (off := 0) hel (flat_len hf l) (fun j u hj => ?_) ?_ hL (by rw [hm]; omega) (by rw [hm]; omega) ?_
  · have hz : 0 < sz := by
      rcases Nat.eq_zero_or_pos sz with h | h
      · have := (List.getElem?_eq_some_iff.1 hj).1; rw [flat_len hf, h] at this; omega
      · exact h
    have hlt := (List.getElem?_eq_some_iff.1 hj).1
    rw [flat_len hf] at hlt
    have hq : j / sz < l.length := by rw [Nat.div_lt_iff_lt_mul hz]; exact hlt
    have hx : l[j / sz]? = some l[j / sz] := List.getElem?_eq_getElem hq
    obtain ⟨a, ha, hR⟩ := hA _ _ hx
    have e := flat_at hf hx (Nat.mod_lt j hz)
    rw [Nat.mul_comm, Nat.div_add_mod] at e
    rw [e] at hj
    refine ⟨a, ha, ?_⟩
    have := hR _ _ hj
    rw [add_addS, Nat.mul_comm, Nat.div_add_mod] at this
    exact this
  · refine List.all_eq_true.2 fun u hu => ?_
    obtain ⟨x, hx, hux⟩ := List.mem_flatMap.1 hu
    exact List.all_eq_true.1 (h1 x) u hux
  · have e2 := setN_app (l.flatMap f) [] cs (by rw [flat_len hf]; exact hfit)
    rw [flat_len hf] at e2
    simp only [List.nil_append, List.length_nil] at e2
    rw [hm, List.take_of_length_le (by rw [flat_len hf]; exact Nat.le_refl _), e2]
    exact hk
/-- What is read without a slot is read whatever the slot holds. -/
theorem Cell.hole {i : Nat} {s : Slot} {a : Addr} {v : Value} (h : Cell Γ (L.set i none) a v) : Cell Γ (L.set i s) a v := by
  rcases h with ⟨hs, cs, t, fr, hm, hc⟩ | h
  · refine .inl ⟨hs, cs, t, fr, ?_, hc⟩
    obtain ⟨j, hj⟩ := List.mem_iff_getElem?.1 hm
    rw [List.getElem?_set] at hj
    split at hj
    · split at hj <;> cases hj
    · rename_i hne
      refine List.mem_iff_getElem?.2 ⟨j, ?_⟩
      rw [List.getElem?_set, if_neg hne]
      exact hj
  · exact .inr h
theorem Sl.hole {α : Type} {sz : Nat} {f : α → List Value} {i : Nat} {s : Slot} {v : Value} {xs : List α} (h : SlS sz f (Cell Γ (L.set i none)) v xs) : SlS sz f (Cell Γ (L.set i s)) v xs := by
  obtain ⟨A, c, h1, h2, h3⟩ := h
  exact ⟨A, c, h1, h2, fun j x hj => let ⟨a, e1, e2⟩ := h3 j x hj; ⟨a, e1, fun k u hu => Cell.hole (e2 k u hu)⟩⟩
theorem SlI.hole {k : IntKind} {i : Nat} {s : Slot} {v : Value} {xs : List Int} (h : SlI k (Cell Γ (L.set i none)) v xs) : SlI k (Cell Γ (L.set i s)) v xs := by
  obtain ⟨A, c, h1, h2, h3⟩ := h
  exact ⟨A, c, h1, h2, fun j x hj => let ⟨a, e1, e2⟩ := h3 j x hj; ⟨a, e1, Cell.hole e2⟩⟩
theorem SlS.cons {α : Type} {sz : Nat} {f : α → List Value} (p : Slot) {v : Value} {xs : List α} (h : SlS sz f (Cell Γ L) v xs) : SlS sz f (Cell Γ (p :: L)) v xs := by
  obtain ⟨A, c, h1, h2, h3⟩ := h
  exact ⟨A, c, h1, h2, fun j x hj => let ⟨a, e1, e2⟩ := h3 j x hj; ⟨a, e1, fun k u hu => Cell.cons p (e2 k u hu)⟩⟩
theorem Cell.any {a : Addr} {v : Value} (h : Cell Γ [] a v) : Cell Γ L a v := by
  rcases h with ⟨_, _, _, _, hm, _⟩ | h
  · cases hm
  · exact .inr h
theorem Sl.any {α : Type} {sz : Nat} {R : (Addr → Value → Prop) → Addr → α → Prop} {v : Value} {xs : List α} (hR : ∀ a x, R (Cell Γ []) a x → R (Cell Γ L) a x) (h : Sl sz R (Cell Γ []) v xs) : Sl sz R (Cell Γ L) v xs := by
  obtain ⟨A, c, h1, h2, h3⟩ := h
  exact ⟨A, c, h1, h2, fun j x hj => let ⟨a, e1, e2⟩ := h3 j x hj; ⟨a, e1, hR _ _ e2⟩⟩
theorem SlI.any {k : IntKind} {v : Value} {xs : List Int} (h : SlI k (Cell Γ []) v xs) : SlI k (Cell Γ L) v xs := Sl.any (fun _ _ h => Cell.any h) h
theorem SCall.less {f : FuncId} {args : Array Value} {R R' : Value → Hp → Prop} (h : SCall Γ f args L R) (hr : ∀ v L', R v L' → ∃ L'', Less L' L'' ∧ R' v L'') : SCall Γ f args L R' :=
  fun w hi => (h w hi).mono fun _ _ ⟨v, L', h1, h2, h3⟩ => let ⟨L'', k1, k2⟩ := hr v L' h3; ⟨v, L'', h1, k1 _ _ h2, k2⟩
/-- A slot is let go. -/
theorem Less.hole (i : Nat) (L : Hp) : Less L (L.set i Option.none) := fun Γ w h => (h.none).put i
end
section
variable {H : Type} {enc : TypeId × Value → H} {P : Program}
/-- A slice that is handed in, each element opened by what its type says. -/
theorem open_slR {α : Type} {R : List Value → α → Prop} {t e : TypeId} {sz : Nat} {W : World} {v : Value} {n : Nat} {y : DataW H × List MemPlace} (hu : P.underlying t = some (.slice e)) (hc : P.cellsOf e = sz)
    (hel : ∀ n cs y, DataW.trod enc P W 0 (fun _ => true) true n e cs = some y → ∃ x, R cs x)
    (hf : DataW.trod enc P W 0 (fun _ => true) true n t [v] = some y) :
    ∃ xs : List α, Sl sz (fun C a x => ∃ cs, cs.length = sz ∧ R cs x ∧ ∀ i u, cs[i]? = some u → C (a.add i) u) (Cell ⟨P, W, []⟩ []) v xs ∧ xs.length ≤ maxLen := by
  rcases DataW.trod_slice hu hf with ⟨hcs, hx⟩ | ⟨a, len, cap, elems, rest, m, _, hcs, _, _, hl, hm, hln, hp, _⟩
  · simp at hcs
    subst hcs
    exact ⟨[], ⟨none, 0, rfl, Nat.le_refl _, fun j x hj => by simp at hj⟩, Nat.zero_le _⟩
  · simp at hcs
    subst hcs
    have key : ∀ i : Fin len, ∃ x, ∃ cs, cs.length = sz ∧ R cs x ∧ ∀ k u, cs[k]? = some u → W.cell? ((a.add (i.1 * sz)).add k) = some u := fun i => by
      have h1 := hp i.1 i.2
      rw [List.getElem?_eq_getElem (by omega), hc] at h1
      obtain ⟨cs, h2, h3⟩ := Option.bind_eq_some_iff.1 h1
      obtain ⟨x, hx⟩ := hel _ _ _ h3
      obtain ⟨c1, c2⟩ := cells_at h2
      exact ⟨x, cs, c1, hx, c2⟩
    refine ⟨List.ofFn fun i => (key i).choose, ⟨some a, cap, by rw [List.length_ofFn], by rw [List.length_ofFn]; omega, fun j x hj => ⟨a, rfl, ?_⟩⟩, by rw [List.length_ofFn]; omega⟩
    rw [List.getElem?_ofFn] at hj
    split at hj
    · rename_i hjl
      cases hj
      obtain ⟨cs, h1, h2, h3⟩ := (key ⟨j, hjl⟩).choose_spec
      exact ⟨cs, h1, h2, fun k u hk => Cell.old (by simp) (h3 k u hk)⟩
    · cases hj
theorem open_slRT {α : Type} {R : List Value → α → Prop} {t e : TypeId} {sz : Nat} {W : World} {base : Nat} {v : Value} {d : DataW H} {p : List MemPlace} (hu : P.underlying t = some (.slice e)) (hc : P.cellsOf e = sz)
    (hel : ∀ n cs y, DataW.trod enc P W 0 (fun _ => true) true n e cs = some y → ∃ x, R cs x)
    (hok : Value.okWide P W .any base t v) (h : DataW.Trod enc P W 0 (fun _ => true) true t v d p) :
    ∃ xs : List α, Sl sz (fun C a x => ∃ cs, cs.length = sz ∧ R cs x ∧ ∀ i u, cs[i]? = some u → C (a.add i) u) (Cell ⟨P, W, []⟩ []) v xs ∧ xs.length ≤ maxLen := by
  obtain ⟨a0, len, cap, rfl⟩ := okWide_slice hu hok
  obtain ⟨fuel, hf⟩ := h
  exact open_slR hu hc hel hf
end
end Go.SX
