/- A part of a proof: contracts and plain facts that it stands on. -/
import Derived.Test.YtgioegdjeodpiaaCD
import Derived.KernelRfl
import Derived.Laws.BitsLemmas
set_option linter.unusedVariables false
set_option linter.unusedSimpArgs false
namespace Go.Proofs.Ytgioegdjeodpiaa
open Go.RowKit Go.SX
/-! An order that is done changes nothing but what its row names. -/
def touchedB (o : Ord) (k : Nat) : Bool :=
  if o.op = 9 ∨ o.op = 10 ∨ o.op = 11 ∨ o.op = 19 ∨ o.op = 23 ∨ o.op = 24 then decide (k = o.x)
  else if o.op = 12 ∨ o.op = 13 ∨ o.op = 14 ∨ o.op = 15 then decide (k = o.x) || decide (k = 15)
  else if o.op = 20 then decide (k = 15)
  else if o.op = 31 then decide (k ≤ o.x)
  else false
def liesB (g : GM) (o : Ord) (a : Int) : Bool :=
  if o.op = 29 then decide (g.I ≤ a) && decide (a ≤ g.I + 2)
  else if o.op = 30 then decide (g.I ≤ a) && decide (a ≤ g.I + (o.x : Int))
  else false
def wentB (g : GM) (o : Ord) (pc : Int) : Bool :=
  if o.op = 3 then decide (0 < g.st.length) && decide (pc = g.st.getD (g.st.length - 1) 0)
  else if o.op = 4 ∨ o.op = 5 then decide (pc = (o.a : Int))
  else if o.op = 18 then decide (pc = IntKind.u16.wrap ((o.a : Int) + g.V.getD 0 0))
  else if o.op = 6 ∨ o.op = 7 ∨ o.op = 8 ∨ o.op = 16 ∨ o.op = 21 ∨ o.op = 22 then decide (pc = IntKind.u16.wrap (g.PC + 2)) || decide (pc = IntKind.u16.wrap (g.PC + 4))
  else decide (pc = IntKind.u16.wrap (g.PC + 2))
structure Touch (g n : GM) (o : Ord) : Prop where
  V : ∀ k, k < 16 → touchedB o k = false → n.V.getD k 0 = g.V.getD k 0
  mm : ∀ k, k < g.mm.length → liesB g o (512 + (k : Int)) = false → n.mm.getD k 0 = g.mm.getD k 0
  pg : o.op ≠ 2 → o.op ≠ 20 → n.pg = g.pg
  dl : o.op ≠ 25 → n.dl = g.dl
  sd : o.op ≠ 26 → n.sd = g.sd
  I : o.op ≠ 17 → o.op ≠ 27 → o.op ≠ 28 → o.op ≠ 30 → o.op ≠ 31 → n.I = g.I
  stl : (n.st.length : Int) = g.st.length + (if o.op = 5 then 1 else 0) - (if o.op = 3 then 1 else 0)
  st : ∀ k, k < n.st.length → k < g.st.length → n.st.getD k 0 = g.st.getD k 0
  pc : wentB g o n.PC = true
section
variable {g : GM} {o : Ord}
abbrev nx (g : GM) : GM := { g with PC := IntKind.u16.wrap (g.PC + 2) }
theorem went_next (h : o.op ≠ 3 ∧ o.op ≠ 4 ∧ o.op ≠ 5 ∧ o.op ≠ 18) : wentB g o (IntKind.u16.wrap (g.PC + 2)) = true := by
  unfold wentB
  rw [if_neg h.1, if_neg (by omega), if_neg h.2.2.2]
  split <;> simp
theorem getD_set4 (l : List Int) (i j : Nat) (x : Int) (h : i ≠ j) : (l.set i x).getD j 0 = l.getD j 0 := by
  rw [List.getD_eq_getElem?_getD, List.getElem?_set, if_neg h, List.getD_eq_getElem?_getD]
/-- Only some registers, and PC at the next order. -/
theorem touch_V (h : o.op ≠ 3 ∧ o.op ≠ 4 ∧ o.op ≠ 5 ∧ o.op ≠ 18) {l : List Int} (hl : ∀ k, k < 16 → touchedB o k = false → l.getD k 0 = g.V.getD k 0) : Touch g { nx g with V := l } o :=
  ⟨hl, fun _ _ _ => rfl, fun _ _ => rfl, fun _ => rfl, fun _ => rfl, fun _ _ _ _ _ => rfl, by rw [if_neg h.2.2.1, if_neg h.1]; show (g.st.length : Int) = _; omega, fun _ _ _ => rfl, went_next h⟩
theorem touch_let (h : o.op = 9 ∨ o.op = 10 ∨ o.op = 11 ∨ o.op = 19 ∨ o.op = 23 ∨ o.op = 24) (b : Int) : Touch g (letG (nx g) o b).2 o := touch_V (by omega) fun k hk ht => by
  unfold touchedB at ht
  rw [if_pos h] at ht
  exact getD_set4 _ _ _ _ (fun e => by simp [e] at ht)
theorem touch_flag (h : o.op = 12 ∨ o.op = 13 ∨ o.op = 14 ∨ o.op = 15) (b c : Int) : Touch g (flagG (nx g) o b c).2 o := touch_V (by omega) fun k hk ht => by
  unfold touchedB at ht
  rw [if_neg (by omega), if_pos h] at ht
  simp only [Bool.or_eq_false_iff, decide_eq_false_iff_not] at ht
  show ((g.V.set o.x b).set 15 c).getD k 0 = _
  rw [getD_set4 _ _ _ _ (by omega), getD_set4 _ _ _ _ (by omega)]
theorem touch_skip (h : o.op = 6 ∨ o.op = 7 ∨ o.op = 8 ∨ o.op = 16 ∨ o.op = 21 ∨ o.op = 22) (c : Bool) : Touch g (skipG (nx g) c).2 o := by
  unfold skipG
  dsimp only
  have hp : ∀ p : Int, p = IntKind.u16.wrap (g.PC + 2) ∨ p = IntKind.u16.wrap (g.PC + 4) → wentB g o p = true := fun p hp => by
    unfold wentB
    rw [if_neg (by omega), if_neg (by omega), if_neg (by omega), if_pos h]
    rcases hp with rfl | rfl <;> simp
  have hl : (g.st.length : Int) = (g.st.length : Int) + (if o.op = 5 then 1 else 0) - (if o.op = 3 then 1 else 0) := by rw [if_neg (by omega), if_neg (by omega)]; omega
  split
  · exact ⟨fun _ _ _ => rfl, fun _ _ _ => rfl, fun _ _ => rfl, fun _ => rfl, fun _ => rfl, fun _ _ _ _ _ => rfl, hl, fun _ _ _ => rfl, hp _ (.inr (by show IntKind.u16.wrap (IntKind.u16.wrap (g.PC + 2) + 2) = _; simp only [IntKind.wrap_u16]; omega))⟩
  · exact ⟨fun _ _ _ => rfl, fun _ _ _ => rfl, fun _ _ => rfl, fun _ => rfl, fun _ => rfl, fun _ _ _ _ _ => rfl, hl, fun _ _ _ => rfl, hp _ (.inl rfl)⟩
theorem touch_mm (h : o.op = 29 ∨ o.op = 30) {bs : List Int} {n : GM} (hml : g.mm.length = 3232) (hn : layG (nx g) bs = some n) (hb : (bs.length : Int) = if o.op = 29 then 3 else (o.x : Int) + 1) (i : Int) (hi : o.op = 29 → i = g.I) : Touch g { n with I := i } o := by
  have e := layG_fields hn
  subst e
  unfold layG at hn
  split at hn
  · rename_i hin
    have hin' : 512 ≤ g.I ∧ g.I + (bs.length : Int) ≤ 3744 := hin
    refine ⟨fun _ _ _ => rfl, fun k hk hl => ?_, fun _ _ => rfl, fun _ => rfl, fun _ => rfl, fun _ _ _ h30 _ => hi (by omega), by rw [if_neg (by omega), if_neg (by omega)]; show (g.st.length : Int) = _; omega, fun _ _ _ => rfl, went_next (by omega)⟩
    show (spliceL g.mm (g.I - 512).toNat bs).getD k 0 = g.mm.getD k 0
    have hk' : k < (g.I - 512).toNat ∨ (g.I - 512).toNat + bs.length ≤ k := by
      unfold liesB at hl
      rcases h with h | h
      · rw [if_pos h] at hl
        rw [if_pos h] at hb
        simp only [Bool.and_eq_false_iff, decide_eq_false_iff_not] at hl
        omega
      · rw [if_neg (by omega), if_pos h] at hl
        rw [if_neg (by omega)] at hb
        simp only [Bool.and_eq_false_iff, decide_eq_false_iff_not] at hl
        omega
    rw [List.getD_eq_getElem?_getD, List.getD_eq_getElem?_getD]
    congr 1
    unfold spliceL
    rcases hk' with hk' | hk'
    · rw [List.append_assoc, List.getElem?_append_left (by rw [List.length_take]; omega), List.getElem?_take, if_pos hk']
    · rw [List.getElem?_append_right (by simp only [List.length_append, List.length_take]; omega)]
      simp only [List.length_append, List.length_take]
      rw [List.getElem?_drop, Nat.min_eq_left (by omega)]
      congr 1
      omega
  · cases hn
theorem touch_row {n : GM} (hV : ∀ k, k < 16 → touchedB o k = false → n.V.getD k 0 = g.V.getD k 0) (hmm : n.mm = g.mm) (hpg : o.op ≠ 2 → o.op ≠ 20 → n.pg = g.pg) (hdl : o.op ≠ 25 → n.dl = g.dl) (hsd : o.op ≠ 26 → n.sd = g.sd)
    (hI : o.op ≠ 17 → o.op ≠ 27 → o.op ≠ 28 → o.op ≠ 30 → o.op ≠ 31 → n.I = g.I) (hst : n.st = g.st) (h35 : o.op ≠ 3 ∧ o.op ≠ 5) (hpc : wentB g o n.PC = true) : Touch g n o :=
  ⟨hV, fun k _ _ => by rw [hmm], hpg, hdl, hsd, hI, by rw [hst, if_neg h35.2, if_neg h35.1]; omega, fun k _ _ => by rw [hst], hpc⟩
theorem touch {f : Fnt} {d : Feed} (hg : Fine g) (ho : DecO o) (h2 : 2 ≤ o.op) (hdone : (doG (nx g) o f d).1 = 1) : Touch g (doG (nx g) o f d).2 o := by
  have h31 := ho.op2
  have h : o.op = 2 ∨ o.op = 3 ∨ o.op = 4 ∨ o.op = 5 ∨ o.op = 6 ∨ o.op = 7 ∨ o.op = 8 ∨ o.op = 9 ∨ o.op = 10 ∨ o.op = 11 ∨ o.op = 12 ∨ o.op = 13 ∨ o.op = 14 ∨ o.op = 15 ∨ o.op = 16 ∨ o.op = 17 ∨ o.op = 18 ∨ o.op = 19 ∨ o.op = 20 ∨ o.op = 21 ∨ o.op = 22 ∨ o.op = 23 ∨ o.op = 24 ∨ o.op = 25 ∨ o.op = 26 ∨ o.op = 27 ∨ o.op = 28 ∨ o.op = 29 ∨ o.op = 30 ∨ o.op = 31 := by omega
  unfold doG at hdone ⊢
  rcases h with h | h | h | h | h | h | h | h | h | h | h | h | h | h | h | h | h | h | h | h | h | h | h | h | h | h | h | h | h | h <;> rw [h] at hdone ⊢
  · exact touch_row (n := { nx g with pg := List.replicate 256 0 }) (fun _ _ _ => rfl) rfl (fun e => absurd h e) (fun _ => rfl) (fun _ => rfl) (fun _ _ _ _ _ => rfl) rfl (by omega) (went_next (by omega))
  · change (backG (nx g)).1 = 1 at hdone
    change Touch g (backG (nx g)).2 o
    unfold backG at hdone ⊢
    by_cases hs : g.st.length = 0
    · rw [if_pos hs] at hdone
      exact absurd (show (6 : Int) = 1 from hdone) (by decide)
    · rw [if_neg hs]
      refine ⟨fun _ _ _ => rfl, fun _ _ _ => rfl, fun _ _ => rfl, fun _ => rfl, fun _ => rfl, fun _ _ _ _ _ => rfl, ?_, fun k hk _ => ?_, ?_⟩
      · show ((g.st.take (g.st.length - 1)).length : Int) = _
        rw [if_neg (by omega), if_pos h, List.length_take]
        omega
      · change k < (g.st.take (g.st.length - 1)).length at hk
        rw [List.length_take] at hk
        show (g.st.take (g.st.length - 1)).getD k 0 = _
        rw [List.getD_eq_getElem?_getD, List.getElem?_take, if_pos (by omega), List.getD_eq_getElem?_getD]
      · show wentB g o (g.st.getD (g.st.length - 1) 0) = true
        unfold wentB
        rw [if_pos h, decide_eq_true (by omega), decide_eq_true rfl]
        rfl
  · refine touch_row (n := { nx g with PC := (o.a : Int) }) (fun _ _ _ => rfl) rfl (fun _ _ => rfl) (fun _ => rfl) (fun _ => rfl) (fun _ _ _ _ _ => rfl) rfl (by omega) ?_
    unfold wentB
    rw [if_neg (by omega), if_pos (by omega)]
    exact decide_eq_true rfl
  · change (callG (nx g) o).1 = 1 at hdone
    change Touch g (callG (nx g) o).2 o
    unfold callG at hdone ⊢
    by_cases hs : g.st.length = 12
    · rw [if_pos hs] at hdone
      exact absurd (show (5 : Int) = 1 from hdone) (by decide)
    · rw [if_neg hs]
      refine ⟨fun _ _ _ => rfl, fun _ _ _ => rfl, fun _ _ => rfl, fun _ => rfl, fun _ => rfl, fun _ _ _ _ _ => rfl, ?_, fun k _ hk => ?_, ?_⟩
      · show ((g.st ++ [IntKind.u16.wrap (g.PC + 2)]).length : Int) = _
        rw [if_pos h, if_neg (by omega), List.length_append]
        simp
      · show (g.st ++ [IntKind.u16.wrap (g.PC + 2)]).getD k 0 = _
        rw [List.getD_eq_getElem?_getD, List.getElem?_append_left hk, List.getD_eq_getElem?_getD]
      · unfold wentB
        rw [if_neg (by omega), if_pos (by omega)]
        exact decide_eq_true rfl
  · exact touch_skip (by omega) _
  · exact touch_skip (by omega) _
  · exact touch_skip (by omega) _
  · exact touch_let (by omega) _
  · exact touch_let (by omega) _
  · exact touch_let (by omega) _
  · exact touch_flag (by omega) _ _
  · exact touch_flag (by omega) _ _
  · exact touch_flag (by omega) _ _
  · exact touch_flag (by omega) _ _
  · exact touch_skip (by omega) _
  · exact touch_row (n := { nx g with I := (o.a : Int) }) (fun _ _ _ => rfl) rfl (fun _ _ => rfl) (fun _ => rfl) (fun _ => rfl) (fun e _ _ _ _ => absurd h e) rfl (by omega) (went_next (by omega))
  · refine touch_row (n := { nx g with PC := IntKind.u16.wrap ((o.a : Int) + vG (nx g) 0) }) (fun _ _ _ => rfl) rfl (fun _ _ => rfl) (fun _ => rfl) (fun _ => rfl) (fun _ _ _ _ _ => rfl) rfl (by omega) ?_
    unfold wentB
    rw [if_neg (by omega), if_neg (by omega), if_pos h]
    exact decide_eq_true rfl
  · exact touch_let (by omega) _
  · change (drawG (nx g) o f).1 = 1 at hdone
    change Touch g (drawG (nx g) o f).2 o
    unfold drawG at hdone ⊢
    split at hdone
    · exact absurd (show (7 : Int) = 1 from hdone) (by decide)
    · rename_i rows hr
      refine touch_row (fun k hk ht => ?_) rfl (fun _ e => absurd h e) (fun _ => rfl) (fun _ => rfl) (fun _ _ _ _ _ => rfl) rfl (by omega) (went_next (by omega))
      unfold touchedB at ht
      rw [if_neg (by omega), if_neg (by omega), if_pos h, decide_eq_false_iff_not] at ht
      exact getD_set4 _ _ _ _ (by omega)
  · exact touch_skip (by omega) _
  · exact touch_skip (by omega) _
  · exact touch_let (by omega) _
  · change (keyG (nx g) o d).1 = 1 at hdone
    change Touch g (keyG (nx g) o d).2 o
    unfold keyG at hdone ⊢
    by_cases hk : d.key < 0
    · rw [if_pos hk] at hdone
      exact absurd (show (2 : Int) = 1 from hdone) (by decide)
    · rw [if_neg hk]
      exact touch_let (by omega) _
  · exact touch_row (n := { nx g with dl := vG (nx g) o.x }) (fun _ _ _ => rfl) rfl (fun _ _ => rfl) (fun e => absurd h e) (fun _ => rfl) (fun _ _ _ _ _ => rfl) rfl (by omega) (went_next (by omega))
  · exact touch_row (n := { nx g with sd := vG (nx g) o.x }) (fun _ _ _ => rfl) rfl (fun _ _ => rfl) (fun _ => rfl) (fun e => absurd h e) (fun _ _ _ _ _ => rfl) rfl (by omega) (went_next (by omega))
  · exact touch_row (n := { nx g with I := IntKind.u16.wrap ((nx g).I + vG (nx g) o.x) }) (fun _ _ _ => rfl) rfl (fun _ _ => rfl) (fun _ => rfl) (fun _ => rfl) (fun _ e _ _ _ => absurd h e) rfl (by omega) (went_next (by omega))
  · exact touch_row (n := { nx g with I := f.at_.getD (vG (nx g) o.x % 16).toNat 0 }) (fun _ _ _ => rfl) rfl (fun _ _ => rfl) (fun _ => rfl) (fun _ => rfl) (fun _ _ e _ _ => absurd h e) rfl (by omega) (went_next (by omega))
  · change (threeG (nx g) o).1 = 1 at hdone
    change Touch g (threeG (nx g) o).2 o
    unfold threeG at hdone ⊢
    split at hdone
    · rename_i n hn
      have hI : n.I = g.I := by rw [layG_fields hn]
      have := touch_mm (.inl h) hg.mm hn (by rw [if_pos h]; rfl) n.I (fun _ => hI)
      exact this
    · exact absurd (show (7 : Int) = 1 from hdone) (by decide)
  · change (storeG (nx g) o).1 = 1 at hdone
    change Touch g (storeG (nx g) o).2 o
    unfold storeG at hdone ⊢
    split at hdone
    · rename_i n hn
      have hl : ((nx g).V.take (o.x + 1)).length = o.x + 1 := by
        have hV : g.V.length = 16 := hg.ok.V
        have := ho.x
        show (g.V.take (o.x + 1)).length = o.x + 1
        rw [List.length_take]
        omega
      exact touch_mm (.inr h) hg.mm hn (by rw [if_neg (by omega), hl]; omega) _ (fun e => by omega)
    · exact absurd (show (7 : Int) = 1 from hdone) (by decide)
  · change (fillG (nx g) o f).1 = 1 at hdone
    change Touch g (fillG (nx g) o f).2 o
    unfold fillG at hdone ⊢
    split at hdone
    · exact absurd (show (7 : Int) = 1 from hdone) (by decide)
    · rename_i l hl
      have hlen := rowG_length hl
      refine touch_row (fun k hk ht => ?_) rfl (fun _ _ => rfl) (fun _ => rfl) (fun _ => rfl) (fun _ _ _ _ e => absurd h e) rfl (by omega) (went_next (by omega))
      unfold touchedB at ht
      rw [if_neg (by omega), if_neg (by omega), if_neg (by omega), if_pos h, decide_eq_false_iff_not] at ht
      have hV : g.V.length = 16 := hg.ok.V
      show (spliceL g.V 0 l).getD k 0 = g.V.getD k 0
      rw [List.getD_eq_getElem?_getD, List.getD_eq_getElem?_getD]
      congr 1
      unfold spliceL
      rw [List.getElem?_append_right (by simp only [List.length_append, List.length_take]; omega)]
      simp only [List.length_append, List.length_take]
      rw [List.getElem?_drop]
      congr 1
      omega
theorem touch_step {f : Fnt} {d : Feed} (hg : Fine g) (hn : (nextG g).2 = 1) (he : (stepG g f d).2.2 = 0) (ho : (stepG g f d).2.1 = 1) : Touch g (stepG g f d).1 (nextG g).1 := by
  obtain ⟨hd, h2⟩ := nextG_dec hn
  unfold stepG at he ho ⊢
  have hc := hg.check
  rw [if_neg (by rw [hc]; simp)] at he ho ⊢
  split at he
  · cases he
  · rename_i h1
    have hne : ¬ (nextG g).2 ≠ 1 := by rw [hn]; simp
    rw [if_neg h1, if_neg hne] at ho ⊢
    dsimp only at ho ⊢
    by_cases hr : (doG { g with PC := IntKind.u16.wrap (g.PC + 2) } (nextG g).1 f d).1 ≠ 1
    · rw [if_pos hr] at ho
      exact absurd ho hr
    · rw [if_neg hr]
      exact touch hg hd h2 (by simpa using hr)
theorem step_next {f : Fnt} {d : Feed} (hc : checkE g = 0) (he : (stepG g f d).2.2 = 0) (hn : (nextG g).2 ≠ 1) : (stepG g f d).2.1 = (nextG g).2 := by
  unfold stepG at he ⊢
  rw [if_neg (by rw [hc]; simp)] at he ⊢
  split at he
  · cases he
  · rename_i h1
    rw [if_neg h1, if_pos hn]
end
end Go.Proofs.Ytgioegdjeodpiaa
set_option linter.unusedVariables false
set_option linter.unusedSimpArgs false
namespace Go.Proofs.Ytgioegdjeodpiaa
open Go.RowKit Go.SX
open Go.SX renaming ia_someH → Φa, andThen_normal → Φc, andThen_exit → Φd, inBlk_normal → Φe
open Nat renaming reduceEqDiff → Φb

theorem sl_at {k : IntKind} {C : Addr → Value → Prop} {A : Option Addr} {c : Nat} {l : List Int} (h : SlI k C (.slice A l.length c) l) : ∃ a1 : Addr, (0 < l.length → A = some a1) ∧ ∀ j, j < l.length → C (a1.add j) (.int k (l.getD j 0)) := by
  obtain ⟨A', c', he, hc, hA⟩ := h
  injection he with e1 e2 e3
  subst e1
  by_cases h0 : 0 < l.length
  · obtain ⟨a, e, _⟩ := hA 0 _ (getD_some h0)
    refine ⟨a, fun _ => e, fun j hj => ?_⟩
    obtain ⟨b, e', hb⟩ := hA j _ (getD_some hj)
    rw [e] at e'
    cases e'
    rw [Nat.mul_one] at hb
    exact hb
  · exact ⟨⟨0, 0, none⟩, fun h => absurd h h0, fun j hj => by omega⟩
set_option maxHeartbeats 1000000 in
set_option maxRecDepth 100000 in
theorem touched_spec {Γ : Ctx} (hP : Γ.P = Try.prog) {L : Hp} {o : Ord} {k : Nat} (ho : OkO o) (hk : k ≤ 1000) :
    SCall Γ 28 #[(.agg o.cells.toArray), (.int .i64 (k : Int))] L (fun v L' => v = .bool (touchedB o k) ∧ L' = L) := by
  have hx := ho.x
  have hop := ho.op
  refine SCall.enter (n := 42) (res1 4) (hP ▸ Try.func28) rfl rfl (by simp) (res1_ok rfl) ?_
  refine SX.seq_k fun K1 hK1 => ?_
  refine SX.region_d [some 2, some 4] rfl (fun ops hops => ?_)
  unfold Dsts at hops
  simp (maxSteps:=1000000)(dsimp:=false)(disch:=omega) only [go_sem, Φa, hP, hops]
  intro b2
  try with_reducible refine stI ?_
  try simp (maxSteps:=1000000)(dsimp:=false)(disch:=omega) only [go_sem, Φa, hP, hops]
  refine hK1 _ _ ?_
  try clear hK1 K1
  refine SX.seq_k fun K2 hK2 => ?_
  refine SX.region_d [some 6, some 7, some 8, some 5] rfl (fun ops hops => ?_)
  unfold Dsts at hops
  simp (maxSteps:=1000000)(dsimp:=false)(disch:=omega) only [go_sem, Φa, hP, hops]
  refine ⟨_, Cell.at 0 rfl (show (Ord.cells o)[1]? = some (.int .u8 (o.x : Int)) from rfl), ?_⟩
  try with_reducible refine stI ?_
  try simp (maxSteps:=1000000)(dsimp:=false)(disch:=omega) only [go_sem, Φa, hP, hops]
  refine hK2 _ _ ?_
  try clear hK2 K2
  refine SX.seq_k fun K3 hK3 => ?_
  refine SX.seq_k fun K4 hK4 => ?_
  refine SX.region_d [some 9, some 10] rfl (fun ops hops => ?_)
  unfold Dsts at hops
  simp (maxSteps:=1000000)(dsimp:=false)(disch:=omega) only [go_sem, Φa, hP, hops]
  refine ⟨_, Cell.at 0 rfl (show (Ord.cells o)[0]? = some (.int .u8 (o.op : Int)) from rfl), ?_⟩
  try with_reducible refine stI ?_
  try simp (maxSteps:=1000000)(dsimp:=false)(disch:=omega) only [go_sem, Φa, hP, hops]
  refine hK4 _ _ ?_
  try clear hK4 K4
  refine SX.block ?_
  refine SX.live [1, 5, 10] (fun T1 hT1 => ?_)
  simp only [forall_mem_cons', forall_mem_nil', go_sem, Φa, hP] at hT1
  obtain ⟨h1_1, h1_5, h1_10⟩ := hT1
  refine SX.join (fun (ss : Unit) T L' => T 11 = .bool (decide (o.op = 9 ∨ o.op = 10 ∨ o.op = 11 ∨ o.op = 19 ∨ o.op = 23 ∨ o.op = 24)) ∧ T 1 = T1 1 ∧ T 5 = T1 5 ∧ T 10 = T1 10 ∧ L' = some (b2, .cells o.cells.toArray 45 (0, 0)) :: L ∧ (True)) (fun K5 hK5 => ?_) ?_
  · simp only [h1_1, h1_5, h1_10] at hK5
    refine SX.seq_k fun K6 hK6 => ?_
    refine SX.region_d [some 12, some 11] rfl (fun ops hops => ?_)
    unfold Dsts at hops
    simp (maxSteps:=1000000)(dsimp:=false)(disch:=omega) only [go_sem, Φa, hP, h1_1, h1_5, h1_10, hops]
    repeat' ((first | refine And.intro (by omega) ?_ | fail); try (with_reducible refine stI ?_); try simp (maxSteps:=1000000)(dsimp:=false)(disch:=omega) only [go_sem, Φa, hP, h1_1, h1_5, h1_10, hops])
    refine hK6 _ _ ?_
    try clear hK6 K6
    refine SX.cond_k fun X7 Y7 hX7 hY7 => ?_
    simp (maxSteps:=1000000)(dsimp:=false)(disch:=omega) only [go_sem, Φa, hP, h1_1, h1_5, h1_10, condVC]
    refine ⟨fun hc11 => hX7 ?_, fun hc11 => hY7 ?_⟩
    · clear hX7 hY7 X7 Y7
      refine SX.skip ?_
      try simp only [Φc, andThen_ret, Φd, Φe, inBlk_ret, inBlk_exit, Φb, if_true, if_false, ↓reduceIte]
      refine hK5 () _ (some (b2, .cells o.cells.toArray 45 (0, 0)) :: L) _ (by first | exact Less.refl _ | exact Less.drop _ _ | exact Less.drops (Less.drop _ _) | exact Less.drops (Less.drops (Less.drop _ _)) | exact Less.drops (Less.drops (Less.drops (Less.drop _ _))) | exact Less.drops (Less.drops (Less.drops (Less.drops (Less.drop _ _))))) ?_
      try dsimp only
      refine ⟨?_, ?_, ?_, ?_, ?_, ?_⟩
      · simp (maxSteps:=1000000)(dsimp:=false)(disch:=omega) only [go_sem, Φa, hP, h1_1, h1_5, h1_10]
        first | done | exact congrArg _ (decide_eq_decide.2 (by omega)) | exact congrArg _ (decide_eq_true (by omega)).symm | exact congrArg _ (decide_eq_false (by omega)).symm
      · simp (maxSteps:=1000000)(dsimp:=false)(disch:=omega) only [go_sem, Φa, hP, h1_1, h1_5, h1_10]
      · simp (maxSteps:=1000000)(dsimp:=false)(disch:=omega) only [go_sem, Φa, hP, h1_1, h1_5, h1_10]
      · simp (maxSteps:=1000000)(dsimp:=false)(disch:=omega) only [go_sem, Φa, hP, h1_1, h1_5, h1_10]
      · rfl
      · trivial
    · clear hX7 hY7 X7 Y7
      refine SX.seq_k fun K8 hK8 => ?_
      refine SX.region_d [some 13, some 11] rfl (fun ops hops => ?_)
      unfold Dsts at hops
      simp (maxSteps:=1000000)(dsimp:=false)(disch:=omega) only [go_sem, Φa, hP, h1_1, h1_5, h1_10, hops]
      repeat' ((first | refine And.intro (by omega) ?_ | fail); try (with_reducible refine stI ?_); try simp (maxSteps:=1000000)(dsimp:=false)(disch:=omega) only [go_sem, Φa, hP, h1_1, h1_5, h1_10, hops])
      refine hK8 _ _ ?_
      try clear hK8 K8
      refine SX.cond_k fun X9 Y9 hX9 hY9 => ?_
      simp (maxSteps:=1000000)(dsimp:=false)(disch:=omega) only [go_sem, Φa, hP, h1_1, h1_5, h1_10, condVC]
      refine ⟨fun hc11 => hX9 ?_, fun hc11 => hY9 ?_⟩
      · clear hX9 hY9 X9 Y9
        refine SX.skip ?_
        try simp only [Φc, andThen_ret, Φd, Φe, inBlk_ret, inBlk_exit, Φb, if_true, if_false, ↓reduceIte]
        refine hK5 () _ (some (b2, .cells o.cells.toArray 45 (0, 0)) :: L) _ (by first | exact Less.refl _ | exact Less.drop _ _ | exact Less.drops (Less.drop _ _) | exact Less.drops (Less.drops (Less.drop _ _)) | exact Less.drops (Less.drops (Less.drops (Less.drop _ _))) | exact Less.drops (Less.drops (Less.drops (Less.drops (Less.drop _ _))))) ?_
        try dsimp only
        refine ⟨?_, ?_, ?_, ?_, ?_, ?_⟩
        · simp (maxSteps:=1000000)(dsimp:=false)(disch:=omega) only [go_sem, Φa, hP, h1_1, h1_5, h1_10]
          first | done | exact congrArg _ (decide_eq_decide.2 (by omega)) | exact congrArg _ (decide_eq_true (by omega)).symm | exact congrArg _ (decide_eq_false (by omega)).symm
        · simp (maxSteps:=1000000)(dsimp:=false)(disch:=omega) only [go_sem, Φa, hP, h1_1, h1_5, h1_10]
        · simp (maxSteps:=1000000)(dsimp:=false)(disch:=omega) only [go_sem, Φa, hP, h1_1, h1_5, h1_10]
        · simp (maxSteps:=1000000)(dsimp:=false)(disch:=omega) only [go_sem, Φa, hP, h1_1, h1_5, h1_10]
        · rfl
        · trivial
      · clear hX9 hY9 X9 Y9
        refine SX.seq_k fun K10 hK10 => ?_
        refine SX.region_d [some 14, some 11] rfl (fun ops hops => ?_)
        unfold Dsts at hops
        simp (maxSteps:=1000000)(dsimp:=false)(disch:=omega) only [go_sem, Φa, hP, h1_1, h1_5, h1_10, hops]
        repeat' ((first | refine And.intro (by omega) ?_ | fail); try (with_reducible refine stI ?_); try simp (maxSteps:=1000000)(dsimp:=false)(disch:=omega) only [go_sem, Φa, hP, h1_1, h1_5, h1_10, hops])
        refine hK10 _ _ ?_
        try clear hK10 K10
        refine SX.cond_k fun X11 Y11 hX11 hY11 => ?_
        simp (maxSteps:=1000000)(dsimp:=false)(disch:=omega) only [go_sem, Φa, hP, h1_1, h1_5, h1_10, condVC]
        refine ⟨fun hc11 => hX11 ?_, fun hc11 => hY11 ?_⟩
        · clear hX11 hY11 X11 Y11
          refine SX.skip ?_
          try simp only [Φc, andThen_ret, Φd, Φe, inBlk_ret, inBlk_exit, Φb, if_true, if_false, ↓reduceIte]
          refine hK5 () _ (some (b2, .cells o.cells.toArray 45 (0, 0)) :: L) _ (by first | exact Less.refl _ | exact Less.drop _ _ | exact Less.drops (Less.drop _ _) | exact Less.drops (Less.drops (Less.drop _ _)) | exact Less.drops (Less.drops (Less.drops (Less.drop _ _))) | exact Less.drops (Less.drops (Less.drops (Less.drops (Less.drop _ _))))) ?_
          try dsimp only
          refine ⟨?_, ?_, ?_, ?_, ?_, ?_⟩
          · simp (maxSteps:=1000000)(dsimp:=false)(disch:=omega) only [go_sem, Φa, hP, h1_1, h1_5, h1_10]
            first | done | exact congrArg _ (decide_eq_decide.2 (by omega)) | exact congrArg _ (decide_eq_true (by omega)).symm | exact congrArg _ (decide_eq_false (by omega)).symm
          · simp (maxSteps:=1000000)(dsimp:=false)(disch:=omega) only [go_sem, Φa, hP, h1_1, h1_5, h1_10]
          · simp (maxSteps:=1000000)(dsimp:=false)(disch:=omega) only [go_sem, Φa, hP, h1_1, h1_5, h1_10]
          · simp (maxSteps:=1000000)(dsimp:=false)(disch:=omega) only [go_sem, Φa, hP, h1_1, h1_5, h1_10]
          · rfl
          · trivial
        · clear hX11 hY11 X11 Y11
          refine SX.seq_k fun K12 hK12 => ?_
          refine SX.region_d [some 15, some 11] rfl (fun ops hops => ?_)
          unfold Dsts at hops
          simp (maxSteps:=1000000)(dsimp:=false)(disch:=omega) only [go_sem, Φa, hP, h1_1, h1_5, h1_10, hops]
          repeat' ((first | refine And.intro (by omega) ?_ | fail); try (with_reducible refine stI ?_); try simp (maxSteps:=1000000)(dsimp:=false)(disch:=omega) only [go_sem, Φa, hP, h1_1, h1_5, h1_10, hops])
          refine hK12 _ _ ?_
          try clear hK12 K12
          refine SX.cond_k fun X13 Y13 hX13 hY13 => ?_
          simp (maxSteps:=1000000)(dsimp:=false)(disch:=omega) only [go_sem, Φa, hP, h1_1, h1_5, h1_10, condVC]
          refine ⟨fun hc11 => hX13 ?_, fun hc11 => hY13 ?_⟩
          · clear hX13 hY13 X13 Y13
            refine SX.skip ?_
            try simp only [Φc, andThen_ret, Φd, Φe, inBlk_ret, inBlk_exit, Φb, if_true, if_false, ↓reduceIte]
            refine hK5 () _ (some (b2, .cells o.cells.toArray 45 (0, 0)) :: L) _ (by first | exact Less.refl _ | exact Less.drop _ _ | exact Less.drops (Less.drop _ _) | exact Less.drops (Less.drops (Less.drop _ _)) | exact Less.drops (Less.drops (Less.drops (Less.drop _ _))) | exact Less.drops (Less.drops (Less.drops (Less.drops (Less.drop _ _))))) ?_
            try dsimp only
            refine ⟨?_, ?_, ?_, ?_, ?_, ?_⟩
            · simp (maxSteps:=1000000)(dsimp:=false)(disch:=omega) only [go_sem, Φa, hP, h1_1, h1_5, h1_10]
              first | done | exact congrArg _ (decide_eq_decide.2 (by omega)) | exact congrArg _ (decide_eq_true (by omega)).symm | exact congrArg _ (decide_eq_false (by omega)).symm
            · simp (maxSteps:=1000000)(dsimp:=false)(disch:=omega) only [go_sem, Φa, hP, h1_1, h1_5, h1_10]
            · simp (maxSteps:=1000000)(dsimp:=false)(disch:=omega) only [go_sem, Φa, hP, h1_1, h1_5, h1_10]
            · simp (maxSteps:=1000000)(dsimp:=false)(disch:=omega) only [go_sem, Φa, hP, h1_1, h1_5, h1_10]
            · rfl
            · trivial
          · clear hX13 hY13 X13 Y13
            refine SX.seq_k fun K14 hK14 => ?_
            refine SX.region_d [some 16, some 11] rfl (fun ops hops => ?_)
            unfold Dsts at hops
            simp (maxSteps:=1000000)(dsimp:=false)(disch:=omega) only [go_sem, Φa, hP, h1_1, h1_5, h1_10, hops]
            repeat' ((first | refine And.intro (by omega) ?_ | fail); try (with_reducible refine stI ?_); try simp (maxSteps:=1000000)(dsimp:=false)(disch:=omega) only [go_sem, Φa, hP, h1_1, h1_5, h1_10, hops])
            refine hK14 _ _ ?_
            try clear hK14 K14
            refine SX.live [1, 5, 10, 11] (fun T2 hT2 => ?_)
            simp only [forall_mem_cons', forall_mem_nil', go_sem, Φa, hP, h1_1, h1_5, h1_10] at hT2
            obtain ⟨h2_1, h2_5, h2_10, h2_11⟩ := hT2
            clear h1_1 h1_5 h1_10 T1
            refine SX.cond_k fun X15 Y15 hX15 hY15 => ?_
            simp (maxSteps:=1000000)(dsimp:=false)(disch:=omega) only [go_sem, Φa, hP, h2_1, h2_5, h2_10, h2_11, condVC]
            refine ⟨fun hc11 => hX15 ?_, fun hc11 => hY15 ?_⟩
            · clear hX15 hY15 X15 Y15
              refine SX.skip ?_
              try simp only [Φc, andThen_ret, Φd, Φe, inBlk_ret, inBlk_exit, Φb, if_true, if_false, ↓reduceIte]
              refine hK5 () _ (some (b2, .cells o.cells.toArray 45 (0, 0)) :: L) _ (by first | exact Less.refl _ | exact Less.drop _ _ | exact Less.drops (Less.drop _ _) | exact Less.drops (Less.drops (Less.drop _ _)) | exact Less.drops (Less.drops (Less.drops (Less.drop _ _))) | exact Less.drops (Less.drops (Less.drops (Less.drops (Less.drop _ _))))) ?_
              try dsimp only
              refine ⟨?_, ?_, ?_, ?_, ?_, ?_⟩
              · simp (maxSteps:=1000000)(dsimp:=false)(disch:=omega) only [go_sem, Φa, hP, h2_1, h2_5, h2_10, h2_11]
                first | done | exact congrArg _ (decide_eq_decide.2 (by omega)) | exact congrArg _ (decide_eq_true (by omega)).symm | exact congrArg _ (decide_eq_false (by omega)).symm
              · simp (maxSteps:=1000000)(dsimp:=false)(disch:=omega) only [go_sem, Φa, hP, h2_1, h2_5, h2_10, h2_11]
              · simp (maxSteps:=1000000)(dsimp:=false)(disch:=omega) only [go_sem, Φa, hP, h2_1, h2_5, h2_10, h2_11]
              · simp (maxSteps:=1000000)(dsimp:=false)(disch:=omega) only [go_sem, Φa, hP, h2_1, h2_5, h2_10, h2_11]
              · rfl
              · trivial
            · clear hX15 hY15 X15 Y15
              refine SX.region_d [some 17, some 11] rfl (fun ops hops => ?_)
              unfold Dsts at hops
              simp (maxSteps:=1000000)(dsimp:=false)(disch:=omega) only [go_sem, Φa, hP, h2_1, h2_5, h2_10, h2_11, hops]
              repeat' ((first | refine And.intro (by omega) ?_ | fail); try (with_reducible refine stI ?_); try simp (maxSteps:=1000000)(dsimp:=false)(disch:=omega) only [go_sem, Φa, hP, h2_1, h2_5, h2_10, h2_11, hops])
              refine hK5 () _ (some (b2, .cells o.cells.toArray 45 (0, 0)) :: L) _ (by first | exact Less.refl _ | exact Less.drop _ _ | exact Less.drops (Less.drop _ _) | exact Less.drops (Less.drops (Less.drop _ _)) | exact Less.drops (Less.drops (Less.drops (Less.drop _ _))) | exact Less.drops (Less.drops (Less.drops (Less.drops (Less.drop _ _))))) ?_
              try dsimp only
              refine ⟨?_, ?_, ?_, ?_, ?_, ?_⟩
              · simp (maxSteps:=1000000)(dsimp:=false)(disch:=omega) only [go_sem, Φa, hP, h2_1, h2_5, h2_10, h2_11]
                first | done | exact congrArg _ (decide_eq_decide.2 (by omega)) | exact congrArg _ (decide_eq_true (by omega)).symm | exact congrArg _ (decide_eq_false (by omega)).symm
              · simp (maxSteps:=1000000)(dsimp:=false)(disch:=omega) only [go_sem, Φa, hP, h2_1, h2_5, h2_10, h2_11]
              · simp (maxSteps:=1000000)(dsimp:=false)(disch:=omega) only [go_sem, Φa, hP, h2_1, h2_5, h2_10, h2_11]
              · simp (maxSteps:=1000000)(dsimp:=false)(disch:=omega) only [go_sem, Φa, hP, h2_1, h2_5, h2_10, h2_11]
              · rfl
              · trivial
  · intro ss T3 L3 hI
    simp only [h1_1, h1_5, h1_10] at hI 
    obtain ⟨h3_11, h3_1, h3_5, h3_10, hL3, hinv⟩ := hI
    replace hL3 := hL3.symm
    subst hL3
    clear h1_1 h1_5 h1_10 T1
    refine SX.cond_k fun X16 Y16 hX16 hY16 => ?_
    simp (maxSteps:=1000000)(dsimp:=false)(disch:=omega) only [go_sem, Φa, hP, h3_11, h3_1, h3_5, h3_10, condVC]
    refine ⟨fun hc11 => hX16 ?_, fun hc11 => hY16 ?_⟩
    · clear hX16 hY16 X16 Y16
      refine SX.seq_k fun K17 hK17 => ?_
      refine SX.region_d [some 18, some 19, some 20, some 4] rfl (fun ops hops => ?_)
      unfold Dsts at hops
      simp (maxSteps:=1000000)(dsimp:=false)(disch:=omega) only [go_sem, Φa, hP, h3_11, h3_1, h3_5, h3_10, hops]
      repeat' ((first | refine And.intro (by omega) ?_ | fail); try (with_reducible refine stI ?_); try simp (maxSteps:=1000000)(dsimp:=false)(disch:=omega) only [go_sem, Φa, hP, h3_11, h3_1, h3_5, h3_10, hops])
      refine hK17 _ _ ?_
      try clear hK17 K17
      refine SX.ret ?_
      simp only [Φc, andThen_ret, Φd, Φe, inBlk_ret, inBlk_exit, Φb, if_true, if_false, ↓reduceIte, retQ_ret]
      try simp only [res0, res1, res2, res3, stK_e, go_sem, Φa, hP, h3_11, h3_1, h3_5, h3_10]
      refine ⟨_, _, Less.drop _ _, rfl, ?_, rfl⟩
      refine congrArg Value.bool ?_
      unfold touchedB
      rw [if_pos hc11]
      
    · clear hX16 hY16 X16 Y16
      refine SX.live [1, 5, 10] (fun T4 hT4 => ?_)
      simp only [forall_mem_cons', forall_mem_nil', go_sem, Φa, hP, h3_11, h3_1, h3_5, h3_10] at hT4
      obtain ⟨h4_1, h4_5, h4_10⟩ := hT4
      clear h3_11 h3_1 h3_5 h3_10 T3
      refine SX.join (fun (ss : Unit) T L' => T 21 = .bool (decide (o.op = 12 ∨ o.op = 13 ∨ o.op = 14 ∨ o.op = 15)) ∧ T 1 = T4 1 ∧ T 5 = T4 5 ∧ T 10 = T4 10 ∧ L' = some (b2, .cells o.cells.toArray 45 (0, 0)) :: L ∧ (True)) (fun K18 hK18 => ?_) ?_
      · simp only [h4_1, h4_5, h4_10] at hK18
        refine SX.seq_k fun K19 hK19 => ?_
        refine SX.region_d [some 22, some 21] rfl (fun ops hops => ?_)
        unfold Dsts at hops
        simp (maxSteps:=1000000)(dsimp:=false)(disch:=omega) only [go_sem, Φa, hP, h4_1, h4_5, h4_10, hops]
        repeat' ((first | refine And.intro (by omega) ?_ | fail); try (with_reducible refine stI ?_); try simp (maxSteps:=1000000)(dsimp:=false)(disch:=omega) only [go_sem, Φa, hP, h4_1, h4_5, h4_10, hops])
        refine hK19 _ _ ?_
        try clear hK19 K19
        refine SX.cond_k fun X20 Y20 hX20 hY20 => ?_
        simp (maxSteps:=1000000)(dsimp:=false)(disch:=omega) only [go_sem, Φa, hP, h4_1, h4_5, h4_10, condVC]
        refine ⟨fun hc21 => hX20 ?_, fun hc21 => hY20 ?_⟩
        · clear hX20 hY20 X20 Y20
          refine SX.skip ?_
          try simp only [Φc, andThen_ret, Φd, Φe, inBlk_ret, inBlk_exit, Φb, if_true, if_false, ↓reduceIte]
          refine hK18 () _ (some (b2, .cells o.cells.toArray 45 (0, 0)) :: L) _ (by first | exact Less.refl _ | exact Less.drop _ _ | exact Less.drops (Less.drop _ _) | exact Less.drops (Less.drops (Less.drop _ _)) | exact Less.drops (Less.drops (Less.drops (Less.drop _ _))) | exact Less.drops (Less.drops (Less.drops (Less.drops (Less.drop _ _))))) ?_
          try dsimp only
          refine ⟨?_, ?_, ?_, ?_, ?_, ?_⟩
          · simp (maxSteps:=1000000)(dsimp:=false)(disch:=omega) only [go_sem, Φa, hP, h4_1, h4_5, h4_10]
            first | done | exact congrArg _ (decide_eq_decide.2 (by omega)) | exact congrArg _ (decide_eq_true (by omega)).symm | exact congrArg _ (decide_eq_false (by omega)).symm
          · simp (maxSteps:=1000000)(dsimp:=false)(disch:=omega) only [go_sem, Φa, hP, h4_1, h4_5, h4_10]
          · simp (maxSteps:=1000000)(dsimp:=false)(disch:=omega) only [go_sem, Φa, hP, h4_1, h4_5, h4_10]
          · simp (maxSteps:=1000000)(dsimp:=false)(disch:=omega) only [go_sem, Φa, hP, h4_1, h4_5, h4_10]
          · rfl
          · trivial
        · clear hX20 hY20 X20 Y20
          refine SX.seq_k fun K21 hK21 => ?_
          refine SX.region_d [some 23, some 21] rfl (fun ops hops => ?_)
          unfold Dsts at hops
          simp (maxSteps:=1000000)(dsimp:=false)(disch:=omega) only [go_sem, Φa, hP, h4_1, h4_5, h4_10, hops]
          repeat' ((first | refine And.intro (by omega) ?_ | fail); try (with_reducible refine stI ?_); try simp (maxSteps:=1000000)(dsimp:=false)(disch:=omega) only [go_sem, Φa, hP, h4_1, h4_5, h4_10, hops])
          refine hK21 _ _ ?_
          try clear hK21 K21
          refine SX.cond_k fun X22 Y22 hX22 hY22 => ?_
          simp (maxSteps:=1000000)(dsimp:=false)(disch:=omega) only [go_sem, Φa, hP, h4_1, h4_5, h4_10, condVC]
          refine ⟨fun hc21 => hX22 ?_, fun hc21 => hY22 ?_⟩
          · clear hX22 hY22 X22 Y22
            refine SX.skip ?_
            try simp only [Φc, andThen_ret, Φd, Φe, inBlk_ret, inBlk_exit, Φb, if_true, if_false, ↓reduceIte]
            refine hK18 () _ (some (b2, .cells o.cells.toArray 45 (0, 0)) :: L) _ (by first | exact Less.refl _ | exact Less.drop _ _ | exact Less.drops (Less.drop _ _) | exact Less.drops (Less.drops (Less.drop _ _)) | exact Less.drops (Less.drops (Less.drops (Less.drop _ _))) | exact Less.drops (Less.drops (Less.drops (Less.drops (Less.drop _ _))))) ?_
            try dsimp only
            refine ⟨?_, ?_, ?_, ?_, ?_, ?_⟩
            · simp (maxSteps:=1000000)(dsimp:=false)(disch:=omega) only [go_sem, Φa, hP, h4_1, h4_5, h4_10]
              first | done | exact congrArg _ (decide_eq_decide.2 (by omega)) | exact congrArg _ (decide_eq_true (by omega)).symm | exact congrArg _ (decide_eq_false (by omega)).symm
            · simp (maxSteps:=1000000)(dsimp:=false)(disch:=omega) only [go_sem, Φa, hP, h4_1, h4_5, h4_10]
            · simp (maxSteps:=1000000)(dsimp:=false)(disch:=omega) only [go_sem, Φa, hP, h4_1, h4_5, h4_10]
            · simp (maxSteps:=1000000)(dsimp:=false)(disch:=omega) only [go_sem, Φa, hP, h4_1, h4_5, h4_10]
            · rfl
            · trivial
          · clear hX22 hY22 X22 Y22
            refine SX.seq_k fun K23 hK23 => ?_
            refine SX.region_d [some 24, some 21] rfl (fun ops hops => ?_)
            unfold Dsts at hops
            simp (maxSteps:=1000000)(dsimp:=false)(disch:=omega) only [go_sem, Φa, hP, h4_1, h4_5, h4_10, hops]
            repeat' ((first | refine And.intro (by omega) ?_ | fail); try (with_reducible refine stI ?_); try simp (maxSteps:=1000000)(dsimp:=false)(disch:=omega) only [go_sem, Φa, hP, h4_1, h4_5, h4_10, hops])
            refine hK23 _ _ ?_
            try clear hK23 K23
            refine SX.cond_k fun X24 Y24 hX24 hY24 => ?_
            simp (maxSteps:=1000000)(dsimp:=false)(disch:=omega) only [go_sem, Φa, hP, h4_1, h4_5, h4_10, condVC]
            refine ⟨fun hc21 => hX24 ?_, fun hc21 => hY24 ?_⟩
            · clear hX24 hY24 X24 Y24
              refine SX.skip ?_
              try simp only [Φc, andThen_ret, Φd, Φe, inBlk_ret, inBlk_exit, Φb, if_true, if_false, ↓reduceIte]
              refine hK18 () _ (some (b2, .cells o.cells.toArray 45 (0, 0)) :: L) _ (by first | exact Less.refl _ | exact Less.drop _ _ | exact Less.drops (Less.drop _ _) | exact Less.drops (Less.drops (Less.drop _ _)) | exact Less.drops (Less.drops (Less.drops (Less.drop _ _))) | exact Less.drops (Less.drops (Less.drops (Less.drops (Less.drop _ _))))) ?_
              try dsimp only
              refine ⟨?_, ?_, ?_, ?_, ?_, ?_⟩
              · simp (maxSteps:=1000000)(dsimp:=false)(disch:=omega) only [go_sem, Φa, hP, h4_1, h4_5, h4_10]
                first | done | exact congrArg _ (decide_eq_decide.2 (by omega)) | exact congrArg _ (decide_eq_true (by omega)).symm | exact congrArg _ (decide_eq_false (by omega)).symm
              · simp (maxSteps:=1000000)(dsimp:=false)(disch:=omega) only [go_sem, Φa, hP, h4_1, h4_5, h4_10]
              · simp (maxSteps:=1000000)(dsimp:=false)(disch:=omega) only [go_sem, Φa, hP, h4_1, h4_5, h4_10]
              · simp (maxSteps:=1000000)(dsimp:=false)(disch:=omega) only [go_sem, Φa, hP, h4_1, h4_5, h4_10]
              · rfl
              · trivial
            · clear hX24 hY24 X24 Y24
              refine SX.region_d [some 25, some 21] rfl (fun ops hops => ?_)
              unfold Dsts at hops
              simp (maxSteps:=1000000)(dsimp:=false)(disch:=omega) only [go_sem, Φa, hP, h4_1, h4_5, h4_10, hops]
              repeat' ((first | refine And.intro (by omega) ?_ | fail); try (with_reducible refine stI ?_); try simp (maxSteps:=1000000)(dsimp:=false)(disch:=omega) only [go_sem, Φa, hP, h4_1, h4_5, h4_10, hops])
              refine hK18 () _ (some (b2, .cells o.cells.toArray 45 (0, 0)) :: L) _ (by first | exact Less.refl _ | exact Less.drop _ _ | exact Less.drops (Less.drop _ _) | exact Less.drops (Less.drops (Less.drop _ _)) | exact Less.drops (Less.drops (Less.drops (Less.drop _ _))) | exact Less.drops (Less.drops (Less.drops (Less.drops (Less.drop _ _))))) ?_
              try dsimp only
              refine ⟨?_, ?_, ?_, ?_, ?_, ?_⟩
              · simp (maxSteps:=1000000)(dsimp:=false)(disch:=omega) only [go_sem, Φa, hP, h4_1, h4_5, h4_10]
                first | done | exact congrArg _ (decide_eq_decide.2 (by omega)) | exact congrArg _ (decide_eq_true (by omega)).symm | exact congrArg _ (decide_eq_false (by omega)).symm
              · simp (maxSteps:=1000000)(dsimp:=false)(disch:=omega) only [go_sem, Φa, hP, h4_1, h4_5, h4_10]
              · simp (maxSteps:=1000000)(dsimp:=false)(disch:=omega) only [go_sem, Φa, hP, h4_1, h4_5, h4_10]
              · simp (maxSteps:=1000000)(dsimp:=false)(disch:=omega) only [go_sem, Φa, hP, h4_1, h4_5, h4_10]
              · rfl
              · trivial
      · intro ss T5 L5 hI
        simp only [h4_1, h4_5, h4_10] at hI 
        obtain ⟨h5_21, h5_1, h5_5, h5_10, hL5, hinv⟩ := hI
        replace hL5 := hL5.symm
        subst hL5
        clear h4_1 h4_5 h4_10 T4
        refine SX.cond_k fun X25 Y25 hX25 hY25 => ?_
        simp (maxSteps:=1000000)(dsimp:=false)(disch:=omega) only [go_sem, Φa, hP, h5_21, h5_1, h5_5, h5_10, condVC]
        refine ⟨fun hc21 => hX25 ?_, fun hc21 => hY25 ?_⟩
        · clear hX25 hY25 X25 Y25
          refine SX.seq_k fun K26 hK26 => ?_
          refine SX.region_xd [some 26, some 27, some 28, some 29, some 30, some 31, some 32, some 4] rfl (fun ops hops => ?_)
          unfold Dsts at hops
          refine RX.live [1, 5] (fun T6 hT6 => ?_)
          simp only [forall_mem_cons', forall_mem_nil', go_sem, Φa, hP, h5_21, h5_1, h5_5, h5_10] at hT6
          obtain ⟨h6_1, h6_5⟩ := hT6
          clear h5_21 h5_1 h5_5 h5_10 T5
          refine RX.join 7 (fun (ss : Unit) T L' => T 32 = .bool (decide ((k : Int) = (o.x : Int)) || decide ((k : Int) = 15)) ∧ L' = some (b2, .cells o.cells.toArray 45 (0, 0)) :: L ∧ (True)) (fun K27 hK27 => ?_) ?_
          · simp (maxSteps:=1000000)(dsimp:=false)(disch:=omega) only [go_sem, Φa, hP, h6_1, h6_5, hops]
            repeat' (first | refine iteB (fun hg => ?_) (fun hg => ?_) | refine iteI (fun hg => ?_) (fun hg => ?_) | ((first | refine And.intro (by omega) ?_ | refine ⟨_, Cell.at 0 rfl rfl, ?_⟩ | fail); try (with_reducible refine stI ?_); try simp (maxSteps:=1000000)(dsimp:=false)(disch:=omega) only [go_sem, Φa, hP, h6_1, h6_5, hops]) | fail)
            all_goals
              refine hK27 () _ (some (b2, .cells o.cells.toArray 45 (0, 0)) :: L) _ (by first | exact Less.refl _ | exact Less.drop _ _ | exact Less.drops (Less.drop _ _) | exact Less.drops (Less.drops (Less.drop _ _)) | exact Less.drops (Less.drops (Less.drops (Less.drop _ _))) | exact Less.drops (Less.drops (Less.drops (Less.drops (Less.drop _ _))))) ?_
              try dsimp only
              refine ⟨?_, ?_, ?_⟩
              · simp (maxSteps:=1000000)(dsimp:=false)(disch:=omega) only [go_sem, Φa, hP, h6_1, h6_5]
                first | done | (refine congrArg Value.bool ?_; rw [Bool.eq_iff_iff]; simp only [Bool.or_eq_true, Bool.and_eq_true, Bool.not_eq_true', decide_eq_true_eq, decide_eq_false_iff_not, Bool.true_eq_false, Bool.false_eq_true, true_iff, iff_true, false_iff, iff_false, ne_eq]; omega) | (refine congrArg Value.bool ?_; simp_all; done)
              · rfl
              · trivial
          · intro ss T7 L7 hI
            obtain ⟨h7_32, hL7, hinv⟩ := hI
            replace hL7 := hL7.symm
            subst hL7
            clear h6_1 h6_5 T6
            refine RX.done ?_
            simp (maxSteps:=1000000)(dsimp:=false)(disch:=omega) only [go_sem, Φa, hP, h7_32, hops]
            refine hK26 _ _ ?_
            try clear hK26 K26
            refine SX.ret ?_
            simp only [Φc, andThen_ret, Φd, Φe, inBlk_ret, inBlk_exit, Φb, if_true, if_false, ↓reduceIte, retQ_ret]
            try simp only [res0, res1, res2, res3, stK_e, go_sem, Φa, hP, h7_32]
            refine ⟨_, _, Less.drop _ _, rfl, ?_, rfl⟩
            refine congrArg Value.bool ?_
            unfold touchedB
            rw [if_neg hc11, if_pos hc21]
            rw [Bool.eq_iff_iff]
            simp only [Bool.or_eq_true, decide_eq_true_eq]
            omega
        · clear hX25 hY25 X25 Y25
          refine SX.seq_k fun K28 hK28 => ?_
          refine SX.region_d [some 34, some 33] rfl (fun ops hops => ?_)
          unfold Dsts at hops
          simp (maxSteps:=1000000)(dsimp:=false)(disch:=omega) only [go_sem, Φa, hP, h5_21, h5_1, h5_5, h5_10, hops]
          repeat' ((first | refine And.intro (by omega) ?_ | fail); try (with_reducible refine stI ?_); try simp (maxSteps:=1000000)(dsimp:=false)(disch:=omega) only [go_sem, Φa, hP, h5_21, h5_1, h5_5, h5_10, hops])
          refine hK28 _ _ ?_
          try clear hK28 K28
          refine SX.cond_k fun X29 Y29 hX29 hY29 => ?_
          simp (maxSteps:=1000000)(dsimp:=false)(disch:=omega) only [go_sem, Φa, hP, h5_21, h5_1, h5_5, h5_10, condVC]
          refine ⟨fun hc33 => hX29 ?_, fun hc33 => hY29 ?_⟩
          · clear hX29 hY29 X29 Y29
            refine SX.seq_k fun K30 hK30 => ?_
            refine SX.region_d [some 35, some 36, some 4] rfl (fun ops hops => ?_)
            unfold Dsts at hops
            simp (maxSteps:=1000000)(dsimp:=false)(disch:=omega) only [go_sem, Φa, hP, h5_21, h5_1, h5_5, h5_10, hops]
            repeat' ((first | refine And.intro (by omega) ?_ | fail); try (with_reducible refine stI ?_); try simp (maxSteps:=1000000)(dsimp:=false)(disch:=omega) only [go_sem, Φa, hP, h5_21, h5_1, h5_5, h5_10, hops])
            refine hK30 _ _ ?_
            try clear hK30 K30
            refine SX.ret ?_
            simp only [Φc, andThen_ret, Φd, Φe, inBlk_ret, inBlk_exit, Φb, if_true, if_false, ↓reduceIte, retQ_ret]
            try simp only [res0, res1, res2, res3, stK_e, go_sem, Φa, hP, h5_21, h5_1, h5_5, h5_10]
            refine ⟨_, _, Less.drop _ _, rfl, ?_, rfl⟩
            refine congrArg Value.bool ?_
            unfold touchedB
            rw [if_neg hc11, if_neg hc21, if_pos (by omega)]
            exact decide_eq_decide.2 (by omega)
          · clear hX29 hY29 X29 Y29
            refine SX.seq_k fun K31 hK31 => ?_
            refine SX.region_d [some 38, some 37] rfl (fun ops hops => ?_)
            unfold Dsts at hops
            simp (maxSteps:=1000000)(dsimp:=false)(disch:=omega) only [go_sem, Φa, hP, h5_21, h5_1, h5_5, h5_10, hops]
            repeat' ((first | refine And.intro (by omega) ?_ | fail); try (with_reducible refine stI ?_); try simp (maxSteps:=1000000)(dsimp:=false)(disch:=omega) only [go_sem, Φa, hP, h5_21, h5_1, h5_5, h5_10, hops])
            refine hK31 _ _ ?_
            try clear hK31 K31
            refine SX.cond_k fun X32 Y32 hX32 hY32 => ?_
            simp (maxSteps:=1000000)(dsimp:=false)(disch:=omega) only [go_sem, Φa, hP, h5_21, h5_1, h5_5, h5_10, condVC]
            refine ⟨fun hc37 => hX32 ?_, fun hc37 => hY32 ?_⟩
            · clear hX32 hY32 X32 Y32
              refine SX.seq_k fun K33 hK33 => ?_
              refine SX.region_d [some 39, some 40, some 41, some 4] rfl (fun ops hops => ?_)
              unfold Dsts at hops
              simp (maxSteps:=1000000)(dsimp:=false)(disch:=omega) only [go_sem, Φa, hP, h5_21, h5_1, h5_5, h5_10, hops]
              repeat' ((first | refine And.intro (by omega) ?_ | fail); try (with_reducible refine stI ?_); try simp (maxSteps:=1000000)(dsimp:=false)(disch:=omega) only [go_sem, Φa, hP, h5_21, h5_1, h5_5, h5_10, hops])
              refine hK33 _ _ ?_
              try clear hK33 K33
              refine SX.ret ?_
              simp only [Φc, andThen_ret, Φd, Φe, inBlk_ret, inBlk_exit, Φb, if_true, if_false, ↓reduceIte, retQ_ret]
              try simp only [res0, res1, res2, res3, stK_e, go_sem, Φa, hP, h5_21, h5_1, h5_5, h5_10]
              refine ⟨_, _, Less.drop _ _, rfl, ?_, rfl⟩
              refine congrArg Value.bool ?_
              unfold touchedB
              rw [if_neg hc11, if_neg hc21, if_neg (by omega), if_pos (by omega)]
              exact decide_eq_decide.2 (by omega)
            · clear hX32 hY32 X32 Y32
              refine SX.skip ?_
              try simp only [Φc, andThen_ret, Φd, Φe, inBlk_ret, inBlk_exit, Φb, if_true, if_false, ↓reduceIte]
              refine hK3 _ _ ?_
              try clear hK3 K3
              refine SX.seq_k fun K34 hK34 => ?_
              refine SX.region_d [some 4] rfl (fun ops hops => ?_)
              unfold Dsts at hops
              simp (maxSteps:=1000000)(dsimp:=false)(disch:=omega) only [go_sem, Φa, hP, h5_21, h5_1, h5_5, h5_10, hops]
              refine hK34 _ _ ?_
              try clear hK34 K34
              refine SX.ret ?_
              simp only [Φc, andThen_ret, Φd, Φe, inBlk_ret, inBlk_exit, Φb, if_true, if_false, ↓reduceIte, retQ_ret]
              try simp only [res0, res1, res2, res3, stK_e, go_sem, Φa, hP, h5_21, h5_1, h5_5, h5_10]
              refine ⟨_, _, Less.drop _ _, rfl, ?_, rfl⟩
              refine congrArg Value.bool ?_
              unfold touchedB
              rw [if_neg hc11, if_neg hc21, if_neg (by omega), if_neg (by omega)]
              
set_option maxHeartbeats 1000000 in
set_option maxRecDepth 100000 in
theorem lies_spec {Γ : Ctx} (hP : Γ.P = Try.prog) {L : Hp} {g : GM} {sv pv mv : Value} {o : Ord} {a : Int} (hg : OkG g) (ho : OkO o) (hs : SlI .u16 (Cell Γ L) sv g.st) (hp : SlI .u8 (Cell Γ L) pv g.pg) (hm : SlI .u8 (Cell Γ L) mv g.mm) :
    SCall Γ 29 #[(.agg (g.cells sv pv mv).toArray), (.agg o.cells.toArray), (.int .i64 a)] L (fun v L' => v = .bool (liesB g o a) ∧ L' = L) := by
  obtain ⟨As, cs, rfl, hcs⟩ := slShape hs
  obtain ⟨Ap, cp, rfl, hcp⟩ := slShape hp
  obtain ⟨Am, cm, rfl, hcm⟩ := slShape hm
  have hI := hg.I
  have hx := ho.x
  have hop := ho.op
  refine SCall.enter (n := 42) (res1 6) (hP ▸ Try.func29) rfl rfl (by simp) (res1_ok rfl) ?_
  refine SX.seq_k fun K1 hK1 => ?_
  refine SX.region_d [some 3, some 4, some 6] rfl (fun ops hops => ?_)
  unfold Dsts at hops
  simp (maxSteps:=1000000)(dsimp:=false)(disch:=omega) only [go_sem, Φa, hP, hops]
  intro b0
  try with_reducible refine stI ?_
  try simp (maxSteps:=1000000)(dsimp:=false)(disch:=omega) only [go_sem, Φa, hP, hops]
  intro b1
  try with_reducible refine stI ?_
  try simp (maxSteps:=1000000)(dsimp:=false)(disch:=omega) only [go_sem, Φa, hP, hops]
  refine hK1 _ _ ?_
  try clear hK1 K1
  refine SX.seq_k fun K2 hK2 => ?_
  refine SX.seq_k fun K3 hK3 => ?_
  refine SX.region_d [some 7, some 8] rfl (fun ops hops => ?_)
  unfold Dsts at hops
  simp (maxSteps:=1000000)(dsimp:=false)(disch:=omega) only [go_sem, Φa, hP, hops]
  refine ⟨_, Cell.at 0 rfl (show (Ord.cells o)[0]? = some (.int .u8 (o.op : Int)) from rfl), ?_⟩
  try with_reducible refine stI ?_
  try simp (maxSteps:=1000000)(dsimp:=false)(disch:=omega) only [go_sem, Φa, hP, hops]
  refine hK3 _ _ ?_
  try clear hK3 K3
  refine SX.block ?_
  refine SX.seq_k fun K4 hK4 => ?_
  refine SX.region_d [some 10, some 9] rfl (fun ops hops => ?_)
  unfold Dsts at hops
  simp (maxSteps:=1000000)(dsimp:=false)(disch:=omega) only [go_sem, Φa, hP, hops]
  repeat' ((first | refine And.intro (by omega) ?_ | fail); try (with_reducible refine stI ?_); try simp (maxSteps:=1000000)(dsimp:=false)(disch:=omega) only [go_sem, Φa, hP, hops])
  refine hK4 _ _ ?_
  try clear hK4 K4
  refine SX.cond_k fun X5 Y5 hX5 hY5 => ?_
  simp (maxSteps:=1000000)(dsimp:=false)(disch:=omega) only [go_sem, Φa, hP, condVC]
  refine ⟨fun hc9 => hX5 ?_, fun hc9 => hY5 ?_⟩
  · clear hX5 hY5 X5 Y5
    refine SX.seq_k fun K6 hK6 => ?_
    refine SX.region_xd [some 11, some 12, some 13, some 14, some 15, some 16, some 17, some 18, some 19, some 20, some 21, some 22, some 23, some 6] rfl (fun ops hops => ?_)
    unfold Dsts at hops
    refine RX.live [2, 3] (fun T1 hT1 => ?_)
    simp only [forall_mem_cons', forall_mem_nil', go_sem, Φa, hP] at hT1
    obtain ⟨h1_2, h1_3⟩ := hT1
    refine RX.join 13 (fun (ss : Unit) T L' => T 23 = .bool (decide (g.I ≤ a) && decide (a ≤ g.I + 2)) ∧ L' = some (b1, .cells o.cells.toArray 45 (0, 0)) :: some (b0, .cells (g.cells (.slice As g.st.length cs) (.slice Ap g.pg.length cp) (.slice Am g.mm.length cm)).toArray 29 (0, 0)) :: L ∧ (True)) (fun K7 hK7 => ?_) ?_
    · simp (maxSteps:=1000000)(dsimp:=false)(disch:=omega) only [go_sem, Φa, hP, h1_2, h1_3, hops]
      repeat' (first | refine iteB (fun hg => ?_) (fun hg => ?_) | refine iteI (fun hg => ?_) (fun hg => ?_) | ((first | refine ⟨_, Cell.at 1 rfl (show (g.cells _ _ _)[16]? = some (.int .u16 g.I) from rfl), ?_⟩ | refine And.intro (by omega) ?_ | refine ⟨_, Cell.at 0 rfl rfl, ?_⟩ | refine ⟨_, Cell.at 1 rfl rfl, ?_⟩ | fail); try (with_reducible refine stI ?_); try simp (maxSteps:=1000000)(dsimp:=false)(disch:=omega) only [go_sem, Φa, hP, h1_2, h1_3, hops]) | fail)
      all_goals
        refine hK7 () _ (some (b1, .cells o.cells.toArray 45 (0, 0)) :: some (b0, .cells (g.cells (.slice As g.st.length cs) (.slice Ap g.pg.length cp) (.slice Am g.mm.length cm)).toArray 29 (0, 0)) :: L) _ (by first | exact Less.refl _ | exact Less.drop _ _ | exact Less.drops (Less.drop _ _) | exact Less.drops (Less.drops (Less.drop _ _)) | exact Less.drops (Less.drops (Less.drops (Less.drop _ _))) | exact Less.drops (Less.drops (Less.drops (Less.drops (Less.drop _ _))))) ?_
        try dsimp only
        refine ⟨?_, ?_, ?_⟩
        · simp (maxSteps:=1000000)(dsimp:=false)(disch:=omega) only [go_sem, Φa, hP, h1_2, h1_3]
          first | done | (refine congrArg Value.bool ?_; rw [Bool.eq_iff_iff]; simp only [Bool.or_eq_true, Bool.and_eq_true, Bool.not_eq_true', decide_eq_true_eq, decide_eq_false_iff_not, Bool.true_eq_false, Bool.false_eq_true, true_iff, iff_true, false_iff, iff_false, ne_eq]; omega) | (refine congrArg Value.bool ?_; simp_all; done)
        · rfl
        · trivial
    · intro ss T2 L2 hI
      obtain ⟨h2_23, hL2, hinv⟩ := hI
      replace hL2 := hL2.symm
      subst hL2
      clear h1_2 h1_3 T1
      refine RX.done ?_
      simp (maxSteps:=1000000)(dsimp:=false)(disch:=omega) only [go_sem, Φa, hP, h2_23, hops]
      refine hK6 _ _ ?_
      try clear hK6 K6
      refine SX.ret ?_
      simp only [Φc, andThen_ret, Φd, Φe, inBlk_ret, inBlk_exit, Φb, if_true, if_false, ↓reduceIte, retQ_ret]
      try simp only [res0, res1, res2, res3, stK_e, go_sem, Φa, hP, h2_23]
      refine ⟨_, _, Less.drops (Less.drop _ _), rfl, ?_, rfl⟩
      refine congrArg Value.bool ?_
      unfold liesB
      rw [if_pos (by omega)]
      
  · clear hX5 hY5 X5 Y5
    refine SX.seq_k fun K8 hK8 => ?_
    refine SX.region_d [some 25, some 24] rfl (fun ops hops => ?_)
    unfold Dsts at hops
    simp (maxSteps:=1000000)(dsimp:=false)(disch:=omega) only [go_sem, Φa, hP, hops]
    repeat' ((first | refine And.intro (by omega) ?_ | fail); try (with_reducible refine stI ?_); try simp (maxSteps:=1000000)(dsimp:=false)(disch:=omega) only [go_sem, Φa, hP, hops])
    refine hK8 _ _ ?_
    try clear hK8 K8
    refine SX.live [2, 3, 4, 24] (fun T3 hT3 => ?_)
    simp only [forall_mem_cons', forall_mem_nil', go_sem, Φa, hP] at hT3
    obtain ⟨h3_2, h3_3, h3_4, h3_24⟩ := hT3
    refine SX.cond_k fun X9 Y9 hX9 hY9 => ?_
    simp (maxSteps:=1000000)(dsimp:=false)(disch:=omega) only [go_sem, Φa, hP, h3_2, h3_3, h3_4, h3_24, condVC]
    refine ⟨fun hc24 => hX9 ?_, fun hc24 => hY9 ?_⟩
    · clear hX9 hY9 X9 Y9
      refine SX.seq_k fun K10 hK10 => ?_
      refine SX.region_xd [some 26, some 27, some 28, some 29, some 30, some 31, some 32, some 33, some 34, some 35, some 36, some 37, some 38, some 39, some 40, some 41, some 6] rfl (fun ops hops => ?_)
      unfold Dsts at hops
      refine RX.live [2, 3, 4] (fun T4 hT4 => ?_)
      simp only [forall_mem_cons', forall_mem_nil', go_sem, Φa, hP, h3_2, h3_3, h3_4, h3_24] at hT4
      obtain ⟨h4_2, h4_3, h4_4⟩ := hT4
      clear h3_2 h3_3 h3_4 h3_24 T3
      refine RX.join 16 (fun (ss : Unit) T L' => T 41 = .bool (decide (g.I ≤ a) && decide (a ≤ g.I + (o.x : Int))) ∧ L' = some (b1, .cells o.cells.toArray 45 (0, 0)) :: some (b0, .cells (g.cells (.slice As g.st.length cs) (.slice Ap g.pg.length cp) (.slice Am g.mm.length cm)).toArray 29 (0, 0)) :: L ∧ (True)) (fun K11 hK11 => ?_) ?_
      · simp (maxSteps:=1000000)(dsimp:=false)(disch:=omega) only [go_sem, Φa, hP, h4_2, h4_3, h4_4, hops]
        repeat' (first | refine iteB (fun hg => ?_) (fun hg => ?_) | refine iteI (fun hg => ?_) (fun hg => ?_) | ((first | refine ⟨_, Cell.at 1 rfl (show (g.cells _ _ _)[16]? = some (.int .u16 g.I) from rfl), ?_⟩ | refine ⟨_, Cell.at 0 rfl (show (Ord.cells o)[1]? = some (.int .u8 (o.x : Int)) from rfl), ?_⟩ | refine And.intro (by omega) ?_ | refine ⟨_, Cell.at 0 rfl rfl, ?_⟩ | refine ⟨_, Cell.at 1 rfl rfl, ?_⟩ | fail); try (with_reducible refine stI ?_); try simp (maxSteps:=1000000)(dsimp:=false)(disch:=omega) only [go_sem, Φa, hP, h4_2, h4_3, h4_4, hops]) | fail)
        all_goals
          refine hK11 () _ (some (b1, .cells o.cells.toArray 45 (0, 0)) :: some (b0, .cells (g.cells (.slice As g.st.length cs) (.slice Ap g.pg.length cp) (.slice Am g.mm.length cm)).toArray 29 (0, 0)) :: L) _ (by first | exact Less.refl _ | exact Less.drop _ _ | exact Less.drops (Less.drop _ _) | exact Less.drops (Less.drops (Less.drop _ _)) | exact Less.drops (Less.drops (Less.drops (Less.drop _ _))) | exact Less.drops (Less.drops (Less.drops (Less.drops (Less.drop _ _))))) ?_
          try dsimp only
          refine ⟨?_, ?_, ?_⟩
          · simp (maxSteps:=1000000)(dsimp:=false)(disch:=omega) only [go_sem, Φa, hP, h4_2, h4_3, h4_4]
            first | done | (refine congrArg Value.bool ?_; rw [Bool.eq_iff_iff]; simp only [Bool.or_eq_true, Bool.and_eq_true, Bool.not_eq_true', decide_eq_true_eq, decide_eq_false_iff_not, Bool.true_eq_false, Bool.false_eq_true, true_iff, iff_true, false_iff, iff_false, ne_eq]; omega) | (refine congrArg Value.bool ?_; simp_all; done)
          · rfl
          · trivial
      · intro ss T5 L5 hI
        obtain ⟨h5_41, hL5, hinv⟩ := hI
        replace hL5 := hL5.symm
        subst hL5
        clear h4_2 h4_3 h4_4 T4
        refine RX.done ?_
        simp (maxSteps:=1000000)(dsimp:=false)(disch:=omega) only [go_sem, Φa, hP, h5_41, hops]
        refine hK10 _ _ ?_
        try clear hK10 K10
        refine SX.ret ?_
        simp only [Φc, andThen_ret, Φd, Φe, inBlk_ret, inBlk_exit, Φb, if_true, if_false, ↓reduceIte, retQ_ret]
        try simp only [res0, res1, res2, res3, stK_e, go_sem, Φa, hP, h5_41]
        refine ⟨_, _, Less.drops (Less.drop _ _), rfl, ?_, rfl⟩
        refine congrArg Value.bool ?_
        unfold liesB
        rw [if_neg (by omega), if_pos (by omega)]
        
    · clear hX9 hY9 X9 Y9
      refine SX.skip ?_
      try simp only [Φc, andThen_ret, Φd, Φe, inBlk_ret, inBlk_exit, Φb, if_true, if_false, ↓reduceIte]
      refine hK2 _ _ ?_
      try clear hK2 K2
      refine SX.seq_k fun K12 hK12 => ?_
      refine SX.region_d [some 6] rfl (fun ops hops => ?_)
      unfold Dsts at hops
      simp (maxSteps:=1000000)(dsimp:=false)(disch:=omega) only [go_sem, Φa, hP, h3_2, h3_3, h3_4, h3_24, hops]
      refine hK12 _ _ ?_
      try clear hK12 K12
      refine SX.ret ?_
      simp only [Φc, andThen_ret, Φd, Φe, inBlk_ret, inBlk_exit, Φb, if_true, if_false, ↓reduceIte, retQ_ret]
      try simp only [res0, res1, res2, res3, stK_e, go_sem, Φa, hP, h3_2, h3_3, h3_4, h3_24]
      refine ⟨_, _, Less.drops (Less.drop _ _), rfl, ?_, rfl⟩
      refine congrArg Value.bool ?_
      unfold liesB
      rw [if_neg (by omega), if_neg (by omega)]
      
set_option maxHeartbeats 1000000 in
set_option maxRecDepth 100000 in
theorem went_spec {Γ : Ctx} (hP : Γ.P = Try.prog) {L : Hp} {g : GM} {sv pv mv : Value} {o : Ord} {pc : Int} (hg : OkG g) (ho : OkO o) (hsl : g.st.length ≤ 2147483647) (hs : SlI .u16 (Cell Γ L) sv g.st) (hp : SlI .u8 (Cell Γ L) pv g.pg) (hm : SlI .u8 (Cell Γ L) mv g.mm) :
    SCall Γ 30 #[(.agg (g.cells sv pv mv).toArray), (.agg o.cells.toArray), (.int .u16 pc)] L (fun v L' => v = .bool (wentB g o pc) ∧ L' = L) := by
  obtain ⟨As, cs, rfl, hcs⟩ := slShape hs
  obtain ⟨Ap, cp, rfl, hcp⟩ := slShape hp
  obtain ⟨Am, cm, rfl, hcm⟩ := slShape hm
  have hPCb := hg.PC
  have hop := ho.op
  refine SCall.enter (n := 69) (res1 6) (hP ▸ Try.func30) rfl rfl (by simp) (res1_ok rfl) ?_
  refine SX.seq_k fun K1 hK1 => ?_
  refine SX.region_d [some 3, some 4, some 6] rfl (fun ops hops => ?_)
  unfold Dsts at hops
  simp (maxSteps:=1000000)(dsimp:=false)(disch:=omega) only [go_sem, Φa, hP, hops]
  intro b0
  try with_reducible refine stI ?_
  try simp (maxSteps:=1000000)(dsimp:=false)(disch:=omega) only [go_sem, Φa, hP, hops]
  intro b1
  try with_reducible refine stI ?_
  try simp (maxSteps:=1000000)(dsimp:=false)(disch:=omega) only [go_sem, Φa, hP, hops]
  refine hK1 _ _ ?_
  try clear hK1 K1
  refine SX.seq_k fun K2 hK2 => ?_
  refine SX.seq_k fun K3 hK3 => ?_
  refine SX.region_d [some 7, some 8] rfl (fun ops hops => ?_)
  unfold Dsts at hops
  simp (maxSteps:=1000000)(dsimp:=false)(disch:=omega) only [go_sem, Φa, hP, hops]
  refine ⟨_, Cell.at 0 rfl (show (Ord.cells o)[0]? = some (.int .u8 (o.op : Int)) from rfl), ?_⟩
  try with_reducible refine stI ?_
  try simp (maxSteps:=1000000)(dsimp:=false)(disch:=omega) only [go_sem, Φa, hP, hops]
  refine hK3 _ _ ?_
  try clear hK3 K3
  refine SX.block ?_
  refine SX.seq_k fun K4 hK4 => ?_
  refine SX.region_d [some 10, some 9] rfl (fun ops hops => ?_)
  unfold Dsts at hops
  simp (maxSteps:=1000000)(dsimp:=false)(disch:=omega) only [go_sem, Φa, hP, hops]
  repeat' ((first | refine And.intro (by omega) ?_ | fail); try (with_reducible refine stI ?_); try simp (maxSteps:=1000000)(dsimp:=false)(disch:=omega) only [go_sem, Φa, hP, hops])
  refine hK4 _ _ ?_
  try clear hK4 K4
  refine SX.cond_k fun X5 Y5 hX5 hY5 => ?_
  simp (maxSteps:=1000000)(dsimp:=false)(disch:=omega) only [go_sem, Φa, hP, condVC]
  refine ⟨fun hc9 => hX5 ?_, fun hc9 => hY5 ?_⟩
  · clear hX5 hY5 X5 Y5
    refine SX.seq_k fun K6 hK6 => ?_
    refine SX.region_xd [some 11, some 12, some 13, some 14, some 15, some 16, some 17, some 18, some 19, some 20, some 21, some 22, some 23, some 24, some 25, some 26, some 6] rfl (fun ops hops => ?_)
    unfold Dsts at hops
    refine RX.live [2, 3] (fun T1 hT1 => ?_)
    simp only [forall_mem_cons', forall_mem_nil', go_sem, Φa, hP] at hT1
    obtain ⟨h1_2, h1_3⟩ := hT1
    obtain ⟨a1, e1, hm1⟩ := sl_at hs
    have hid : ((g.st.length : Int) - 1).toNat = g.st.length - 1 := by omega
    refine RX.join 16 (fun (ss : Unit) T L' => T 26 = .bool (decide (0 < g.st.length) && decide (pc = g.st.getD (g.st.length - 1) 0)) ∧ L' = some (b1, .cells o.cells.toArray 45 (0, 0)) :: some (b0, .cells (g.cells (.slice As g.st.length cs) (.slice Ap g.pg.length cp) (.slice Am g.mm.length cm)).toArray 29 (0, 0)) :: L ∧ (True)) (fun K7 hK7 => ?_) ?_
    · simp (maxSteps:=1000000)(dsimp:=false)(disch:=omega) only [go_sem, Φa, hP, h1_2, h1_3, hops, e1, hid]
      repeat' (first | refine iteB (fun hg => ?_) (fun hg => ?_) | refine iteI (fun hg => ?_) (fun hg => ?_) | ((first | refine ⟨_, Cell.at 1 rfl (show (g.cells _ _ _)[18]? = _ from rfl), ?_⟩ | refine ⟨_, Cell.cons _ (Cell.cons _ (hm1 (g.st.length - 1) (by omega))), ?_⟩ | refine And.intro (by omega) ?_ | refine ⟨_, Cell.at 0 rfl rfl, ?_⟩ | refine ⟨_, Cell.at 1 rfl rfl, ?_⟩ | fail); try (with_reducible refine stI ?_); try simp (maxSteps:=1000000)(dsimp:=false)(disch:=omega) only [go_sem, Φa, hP, h1_2, h1_3, hops, e1, hid]) | fail)
      all_goals
        refine hK7 () _ (some (b1, .cells o.cells.toArray 45 (0, 0)) :: some (b0, .cells (g.cells (.slice As g.st.length cs) (.slice Ap g.pg.length cp) (.slice Am g.mm.length cm)).toArray 29 (0, 0)) :: L) _ (by first | exact Less.refl _ | exact Less.drop _ _ | exact Less.drops (Less.drop _ _) | exact Less.drops (Less.drops (Less.drop _ _)) | exact Less.drops (Less.drops (Less.drops (Less.drop _ _))) | exact Less.drops (Less.drops (Less.drops (Less.drops (Less.drop _ _)))) | (simp (disch := omega) only [e1]; exact Less.refl _)) ?_
        try dsimp only
        refine ⟨?_, ?_, ?_⟩
        · simp (maxSteps:=1000000)(dsimp:=false)(disch:=omega) only [go_sem, Φa, hP, h1_2, h1_3]
          first | done | (refine congrArg Value.bool ?_; rw [Bool.eq_iff_iff]; simp only [Bool.or_eq_true, Bool.and_eq_true, Bool.not_eq_true', decide_eq_true_eq, decide_eq_false_iff_not, Bool.true_eq_false, Bool.false_eq_true, true_iff, iff_true, false_iff, iff_false, ne_eq]; omega) | (refine congrArg Value.bool ?_; simp_all; done)
        · rfl
        · trivial
    · intro ss T2 L2 hI
      obtain ⟨h2_26, hL2, hinv⟩ := hI
      replace hL2 := hL2.symm
      subst hL2
      clear h1_2 h1_3 T1
      refine RX.done ?_
      simp (maxSteps:=1000000)(dsimp:=false)(disch:=omega) only [go_sem, Φa, hP, h2_26, hops]
      refine hK6 _ _ ?_
      try clear hK6 K6
      refine SX.ret ?_
      simp only [Φc, andThen_ret, Φd, Φe, inBlk_ret, inBlk_exit, Φb, if_true, if_false, ↓reduceIte, retQ_ret]
      try simp only [res0, res1, res2, res3, stK_e, go_sem, Φa, hP, h2_26]
      refine ⟨_, _, Less.drops (Less.drop _ _), rfl, ?_, rfl⟩
      refine congrArg Value.bool ?_
      unfold wentB
      rw [if_pos (by omega)]
      
  · clear hX5 hY5 X5 Y5
    refine SX.live [2, 3, 4, 8] (fun T3 hT3 => ?_)
    simp only [forall_mem_cons', forall_mem_nil', go_sem, Φa, hP] at hT3
    obtain ⟨h3_2, h3_3, h3_4, h3_8⟩ := hT3
    refine SX.join (fun (ss : Unit) T L' => T 27 = .bool (decide (o.op = 4 ∨ o.op = 5)) ∧ T 2 = T3 2 ∧ T 3 = T3 3 ∧ T 4 = T3 4 ∧ T 8 = T3 8 ∧ L' = some (b1, .cells o.cells.toArray 45 (0, 0)) :: some (b0, .cells (g.cells (.slice As g.st.length cs) (.slice Ap g.pg.length cp) (.slice Am g.mm.length cm)).toArray 29 (0, 0)) :: L ∧ (True)) (fun K8 hK8 => ?_) ?_
    · simp only [h3_2, h3_3, h3_4, h3_8] at hK8
      refine SX.seq_k fun K9 hK9 => ?_
      refine SX.region_d [some 28, some 27] rfl (fun ops hops => ?_)
      unfold Dsts at hops
      simp (maxSteps:=1000000)(dsimp:=false)(disch:=omega) only [go_sem, Φa, hP, h3_2, h3_3, h3_4, h3_8, hops]
      repeat' ((first | refine And.intro (by omega) ?_ | fail); try (with_reducible refine stI ?_); try simp (maxSteps:=1000000)(dsimp:=false)(disch:=omega) only [go_sem, Φa, hP, h3_2, h3_3, h3_4, h3_8, hops])
      refine hK9 _ _ ?_
      try clear hK9 K9
      refine SX.cond_k fun X10 Y10 hX10 hY10 => ?_
      simp (maxSteps:=1000000)(dsimp:=false)(disch:=omega) only [go_sem, Φa, hP, h3_2, h3_3, h3_4, h3_8, condVC]
      refine ⟨fun hc27 => hX10 ?_, fun hc27 => hY10 ?_⟩
      · clear hX10 hY10 X10 Y10
        refine SX.skip ?_
        try simp only [Φc, andThen_ret, Φd, Φe, inBlk_ret, inBlk_exit, Φb, if_true, if_false, ↓reduceIte]
        refine hK8 () _ (some (b1, .cells o.cells.toArray 45 (0, 0)) :: some (b0, .cells (g.cells (.slice As g.st.length cs) (.slice Ap g.pg.length cp) (.slice Am g.mm.length cm)).toArray 29 (0, 0)) :: L) _ (by first | exact Less.refl _ | exact Less.drop _ _ | exact Less.drops (Less.drop _ _) | exact Less.drops (Less.drops (Less.drop _ _)) | exact Less.drops (Less.drops (Less.drops (Less.drop _ _))) | exact Less.drops (Less.drops (Less.drops (Less.drops (Less.drop _ _)))) | (simp (disch := omega) only [e1]; exact Less.refl _)) ?_
        try dsimp only
        refine ⟨?_, ?_, ?_, ?_, ?_, ?_, ?_⟩
        · simp (maxSteps:=1000000)(dsimp:=false)(disch:=omega) only [go_sem, Φa, hP, h3_2, h3_3, h3_4, h3_8]
          first | done | exact congrArg _ (decide_eq_decide.2 (by omega)) | exact congrArg _ (decide_eq_true (by omega)).symm | exact congrArg _ (decide_eq_false (by omega)).symm
        · simp (maxSteps:=1000000)(dsimp:=false)(disch:=omega) only [go_sem, Φa, hP, h3_2, h3_3, h3_4, h3_8]
        · simp (maxSteps:=1000000)(dsimp:=false)(disch:=omega) only [go_sem, Φa, hP, h3_2, h3_3, h3_4, h3_8]
        · simp (maxSteps:=1000000)(dsimp:=false)(disch:=omega) only [go_sem, Φa, hP, h3_2, h3_3, h3_4, h3_8]
        · simp (maxSteps:=1000000)(dsimp:=false)(disch:=omega) only [go_sem, Φa, hP, h3_2, h3_3, h3_4, h3_8]
        · rfl
        · trivial
      · clear hX10 hY10 X10 Y10
        refine SX.region_d [some 29, some 27] rfl (fun ops hops => ?_)
        unfold Dsts at hops
        simp (maxSteps:=1000000)(dsimp:=false)(disch:=omega) only [go_sem, Φa, hP, h3_2, h3_3, h3_4, h3_8, hops]
        repeat' ((first | refine And.intro (by omega) ?_ | fail); try (with_reducible refine stI ?_); try simp (maxSteps:=1000000)(dsimp:=false)(disch:=omega) only [go_sem, Φa, hP, h3_2, h3_3, h3_4, h3_8, hops])
        refine hK8 () _ (some (b1, .cells o.cells.toArray 45 (0, 0)) :: some (b0, .cells (g.cells (.slice As g.st.length cs) (.slice Ap g.pg.length cp) (.slice Am g.mm.length cm)).toArray 29 (0, 0)) :: L) _ (by first | exact Less.refl _ | exact Less.drop _ _ | exact Less.drops (Less.drop _ _) | exact Less.drops (Less.drops (Less.drop _ _)) | exact Less.drops (Less.drops (Less.drops (Less.drop _ _))) | exact Less.drops (Less.drops (Less.drops (Less.drops (Less.drop _ _)))) | (simp (disch := omega) only [e1]; exact Less.refl _)) ?_
        try dsimp only
        refine ⟨?_, ?_, ?_, ?_, ?_, ?_, ?_⟩
        · simp (maxSteps:=1000000)(dsimp:=false)(disch:=omega) only [go_sem, Φa, hP, h3_2, h3_3, h3_4, h3_8]
          first | done | exact congrArg _ (decide_eq_decide.2 (by omega)) | exact congrArg _ (decide_eq_true (by omega)).symm | exact congrArg _ (decide_eq_false (by omega)).symm
        · simp (maxSteps:=1000000)(dsimp:=false)(disch:=omega) only [go_sem, Φa, hP, h3_2, h3_3, h3_4, h3_8]
        · simp (maxSteps:=1000000)(dsimp:=false)(disch:=omega) only [go_sem, Φa, hP, h3_2, h3_3, h3_4, h3_8]
        · simp (maxSteps:=1000000)(dsimp:=false)(disch:=omega) only [go_sem, Φa, hP, h3_2, h3_3, h3_4, h3_8]
        · simp (maxSteps:=1000000)(dsimp:=false)(disch:=omega) only [go_sem, Φa, hP, h3_2, h3_3, h3_4, h3_8]
        · rfl
        · trivial
    · intro ss T4 L4 hI
      simp only [h3_2, h3_3, h3_4, h3_8] at hI 
      obtain ⟨h4_27, h4_2, h4_3, h4_4, h4_8, hL4, hinv⟩ := hI
      replace hL4 := hL4.symm
      subst hL4
      clear h3_2 h3_3 h3_4 h3_8 T3
      refine SX.cond_k fun X11 Y11 hX11 hY11 => ?_
      simp (maxSteps:=1000000)(dsimp:=false)(disch:=omega) only [go_sem, Φa, hP, h4_27, h4_2, h4_3, h4_4, h4_8, condVC]
      refine ⟨fun hc27 => hX11 ?_, fun hc27 => hY11 ?_⟩
      · clear hX11 hY11 X11 Y11
        refine SX.seq_k fun K12 hK12 => ?_
        refine SX.region_d [some 30, some 31, some 32, some 33, some 6] rfl (fun ops hops => ?_)
        unfold Dsts at hops
        simp (maxSteps:=1000000)(dsimp:=false)(disch:=omega) only [go_sem, Φa, hP, h4_27, h4_2, h4_3, h4_4, h4_8, hops]
        refine ⟨_, Cell.at 0 rfl (show (Ord.cells o)[5]? = some (.int .u16 (o.a : Int)) from rfl), ?_⟩
        try with_reducible refine stI ?_
        try simp (maxSteps:=1000000)(dsimp:=false)(disch:=omega) only [go_sem, Φa, hP, h4_27, h4_2, h4_3, h4_4, h4_8, hops]
        refine hK12 _ _ ?_
        try clear hK12 K12
        refine SX.ret ?_
        simp only [Φc, andThen_ret, Φd, Φe, inBlk_ret, inBlk_exit, Φb, if_true, if_false, ↓reduceIte, retQ_ret]
        try simp only [res0, res1, res2, res3, stK_e, go_sem, Φa, hP, h4_27, h4_2, h4_3, h4_4, h4_8]
        refine ⟨_, _, Less.drops (Less.drop _ _), rfl, ?_, rfl⟩
        refine congrArg Value.bool ?_
        unfold wentB
        rw [if_neg (by omega), if_pos hc27]
        
      · clear hX11 hY11 X11 Y11
        refine SX.seq_k fun K13 hK13 => ?_
        refine SX.region_d [some 35, some 34] rfl (fun ops hops => ?_)
        unfold Dsts at hops
        simp (maxSteps:=1000000)(dsimp:=false)(disch:=omega) only [go_sem, Φa, hP, h4_27, h4_2, h4_3, h4_4, h4_8, hops]
        repeat' ((first | refine And.intro (by omega) ?_ | fail); try (with_reducible refine stI ?_); try simp (maxSteps:=1000000)(dsimp:=false)(disch:=omega) only [go_sem, Φa, hP, h4_27, h4_2, h4_3, h4_4, h4_8, hops])
        refine hK13 _ _ ?_
        try clear hK13 K13
        refine SX.cond_k fun X14 Y14 hX14 hY14 => ?_
        simp (maxSteps:=1000000)(dsimp:=false)(disch:=omega) only [go_sem, Φa, hP, h4_27, h4_2, h4_3, h4_4, h4_8, condVC]
        refine ⟨fun hc34 => hX14 ?_, fun hc34 => hY14 ?_⟩
        · clear hX14 hY14 X14 Y14
          refine SX.seq_k fun K15 hK15 => ?_
          refine SX.region_d [some 36, some 37, some 38, some 39, some 40, some 41, some 42, some 43, some 44, some 6] rfl (fun ops hops => ?_)
          unfold Dsts at hops
          simp (maxSteps:=1000000)(dsimp:=false)(disch:=omega) only [go_sem, Φa, hP, h4_27, h4_2, h4_3, h4_4, h4_8, hops]
          refine ⟨_, Cell.at 0 rfl (show (Ord.cells o)[5]? = some (.int .u16 (o.a : Int)) from rfl), ?_⟩
          try with_reducible refine stI ?_
          try simp (maxSteps:=1000000)(dsimp:=false)(disch:=omega) only [go_sem, Φa, hP, h4_27, h4_2, h4_3, h4_4, h4_8, hops]
          refine ⟨_, Cell.at 1 rfl (show (g.cells _ _ _)[0]? = _ from rfl), ?_⟩
          try with_reducible refine stI ?_
          try simp (maxSteps:=1000000)(dsimp:=false)(disch:=omega) only [go_sem, Φa, hP, h4_27, h4_2, h4_3, h4_4, h4_8, hops]
          refine hK15 _ _ ?_
          try clear hK15 K15
          refine SX.ret ?_
          simp only [Φc, andThen_ret, Φd, Φe, inBlk_ret, inBlk_exit, Φb, if_true, if_false, ↓reduceIte, retQ_ret]
          try simp only [res0, res1, res2, res3, stK_e, go_sem, Φa, hP, h4_27, h4_2, h4_3, h4_4, h4_8]
          refine ⟨_, _, Less.drops (Less.drop _ _), rfl, ?_, rfl⟩
          refine congrArg Value.bool ?_
          unfold wentB
          rw [if_neg (by omega), if_neg (by omega), if_pos (by omega), show IntKind.u16.wrap (g.V.getD 0 0) = g.V.getD 0 0 from wu16 (by have := byte_at hg.Vb 0; omega)]
          
        · clear hX14 hY14 X14 Y14
          refine SX.live [2, 3, 8] (fun T5 hT5 => ?_)
          simp only [forall_mem_cons', forall_mem_nil', go_sem, Φa, hP, h4_27, h4_2, h4_3, h4_4, h4_8] at hT5
          obtain ⟨h5_2, h5_3, h5_8⟩ := hT5
          clear h4_27 h4_2 h4_3 h4_4 h4_8 T4
          refine SX.join (fun (ss : Unit) T L' => T 45 = .bool (decide (o.op = 6 ∨ o.op = 7 ∨ o.op = 8 ∨ o.op = 16 ∨ o.op = 21 ∨ o.op = 22)) ∧ T 2 = T5 2 ∧ T 3 = T5 3 ∧ L' = some (b1, .cells o.cells.toArray 45 (0, 0)) :: some (b0, .cells (g.cells (.slice As g.st.length cs) (.slice Ap g.pg.length cp) (.slice Am g.mm.length cm)).toArray 29 (0, 0)) :: L ∧ (True)) (fun K16 hK16 => ?_) ?_
          · simp only [h5_2, h5_3] at hK16
            refine SX.seq_k fun K17 hK17 => ?_
            refine SX.region_d [some 46, some 45] rfl (fun ops hops => ?_)
            unfold Dsts at hops
            simp (maxSteps:=1000000)(dsimp:=false)(disch:=omega) only [go_sem, Φa, hP, h5_2, h5_3, h5_8, hops]
            repeat' ((first | refine And.intro (by omega) ?_ | fail); try (with_reducible refine stI ?_); try simp (maxSteps:=1000000)(dsimp:=false)(disch:=omega) only [go_sem, Φa, hP, h5_2, h5_3, h5_8, hops])
            refine hK17 _ _ ?_
            try clear hK17 K17
            refine SX.cond_k fun X18 Y18 hX18 hY18 => ?_
            simp (maxSteps:=1000000)(dsimp:=false)(disch:=omega) only [go_sem, Φa, hP, h5_2, h5_3, h5_8, condVC]
            refine ⟨fun hc45 => hX18 ?_, fun hc45 => hY18 ?_⟩
            · clear hX18 hY18 X18 Y18
              refine SX.skip ?_
              try simp only [Φc, andThen_ret, Φd, Φe, inBlk_ret, inBlk_exit, Φb, if_true, if_false, ↓reduceIte]
              refine hK16 () _ (some (b1, .cells o.cells.toArray 45 (0, 0)) :: some (b0, .cells (g.cells (.slice As g.st.length cs) (.slice Ap g.pg.length cp) (.slice Am g.mm.length cm)).toArray 29 (0, 0)) :: L) _ (by first | exact Less.refl _ | exact Less.drop _ _ | exact Less.drops (Less.drop _ _) | exact Less.drops (Less.drops (Less.drop _ _)) | exact Less.drops (Less.drops (Less.drops (Less.drop _ _))) | exact Less.drops (Less.drops (Less.drops (Less.drops (Less.drop _ _)))) | (simp (disch := omega) only [e1]; exact Less.refl _)) ?_
              try dsimp only
              refine ⟨?_, ?_, ?_, ?_, ?_⟩
              · simp (maxSteps:=1000000)(dsimp:=false)(disch:=omega) only [go_sem, Φa, hP, h5_2, h5_3, h5_8]
                first | done | exact congrArg _ (decide_eq_decide.2 (by omega)) | exact congrArg _ (decide_eq_true (by omega)).symm | exact congrArg _ (decide_eq_false (by omega)).symm
              · simp (maxSteps:=1000000)(dsimp:=false)(disch:=omega) only [go_sem, Φa, hP, h5_2, h5_3, h5_8]
              · simp (maxSteps:=1000000)(dsimp:=false)(disch:=omega) only [go_sem, Φa, hP, h5_2, h5_3, h5_8]
              · rfl
              · trivial
            · clear hX18 hY18 X18 Y18
              refine SX.seq_k fun K19 hK19 => ?_
              refine SX.region_d [some 47, some 45] rfl (fun ops hops => ?_)
              unfold Dsts at hops
              simp (maxSteps:=1000000)(dsimp:=false)(disch:=omega) only [go_sem, Φa, hP, h5_2, h5_3, h5_8, hops]
              repeat' ((first | refine And.intro (by omega) ?_ | fail); try (with_reducible refine stI ?_); try simp (maxSteps:=1000000)(dsimp:=false)(disch:=omega) only [go_sem, Φa, hP, h5_2, h5_3, h5_8, hops])
              refine hK19 _ _ ?_
              try clear hK19 K19
              refine SX.cond_k fun X20 Y20 hX20 hY20 => ?_
              simp (maxSteps:=1000000)(dsimp:=false)(disch:=omega) only [go_sem, Φa, hP, h5_2, h5_3, h5_8, condVC]
              refine ⟨fun hc45 => hX20 ?_, fun hc45 => hY20 ?_⟩
              · clear hX20 hY20 X20 Y20
                refine SX.skip ?_
                try simp only [Φc, andThen_ret, Φd, Φe, inBlk_ret, inBlk_exit, Φb, if_true, if_false, ↓reduceIte]
                refine hK16 () _ (some (b1, .cells o.cells.toArray 45 (0, 0)) :: some (b0, .cells (g.cells (.slice As g.st.length cs) (.slice Ap g.pg.length cp) (.slice Am g.mm.length cm)).toArray 29 (0, 0)) :: L) _ (by first | exact Less.refl _ | exact Less.drop _ _ | exact Less.drops (Less.drop _ _) | exact Less.drops (Less.drops (Less.drop _ _)) | exact Less.drops (Less.drops (Less.drops (Less.drop _ _))) | exact Less.drops (Less.drops (Less.drops (Less.drops (Less.drop _ _)))) | (simp (disch := omega) only [e1]; exact Less.refl _)) ?_
                try dsimp only
                refine ⟨?_, ?_, ?_, ?_, ?_⟩
                · simp (maxSteps:=1000000)(dsimp:=false)(disch:=omega) only [go_sem, Φa, hP, h5_2, h5_3, h5_8]
                  first | done | exact congrArg _ (decide_eq_decide.2 (by omega)) | exact congrArg _ (decide_eq_true (by omega)).symm | exact congrArg _ (decide_eq_false (by omega)).symm
                · simp (maxSteps:=1000000)(dsimp:=false)(disch:=omega) only [go_sem, Φa, hP, h5_2, h5_3, h5_8]
                · simp (maxSteps:=1000000)(dsimp:=false)(disch:=omega) only [go_sem, Φa, hP, h5_2, h5_3, h5_8]
                · rfl
                · trivial
              · clear hX20 hY20 X20 Y20
                refine SX.seq_k fun K21 hK21 => ?_
                refine SX.region_d [some 48, some 45] rfl (fun ops hops => ?_)
                unfold Dsts at hops
                simp (maxSteps:=1000000)(dsimp:=false)(disch:=omega) only [go_sem, Φa, hP, h5_2, h5_3, h5_8, hops]
                repeat' ((first | refine And.intro (by omega) ?_ | fail); try (with_reducible refine stI ?_); try simp (maxSteps:=1000000)(dsimp:=false)(disch:=omega) only [go_sem, Φa, hP, h5_2, h5_3, h5_8, hops])
                refine hK21 _ _ ?_
                try clear hK21 K21
                refine SX.cond_k fun X22 Y22 hX22 hY22 => ?_
                simp (maxSteps:=1000000)(dsimp:=false)(disch:=omega) only [go_sem, Φa, hP, h5_2, h5_3, h5_8, condVC]
                refine ⟨fun hc45 => hX22 ?_, fun hc45 => hY22 ?_⟩
                · clear hX22 hY22 X22 Y22
                  refine SX.skip ?_
                  try simp only [Φc, andThen_ret, Φd, Φe, inBlk_ret, inBlk_exit, Φb, if_true, if_false, ↓reduceIte]
                  refine hK16 () _ (some (b1, .cells o.cells.toArray 45 (0, 0)) :: some (b0, .cells (g.cells (.slice As g.st.length cs) (.slice Ap g.pg.length cp) (.slice Am g.mm.length cm)).toArray 29 (0, 0)) :: L) _ (by first | exact Less.refl _ | exact Less.drop _ _ | exact Less.drops (Less.drop _ _) | exact Less.drops (Less.drops (Less.drop _ _)) | exact Less.drops (Less.drops (Less.drops (Less.drop _ _))) | exact Less.drops (Less.drops (Less.drops (Less.drops (Less.drop _ _)))) | (simp (disch := omega) only [e1]; exact Less.refl _)) ?_
                  try dsimp only
                  refine ⟨?_, ?_, ?_, ?_, ?_⟩
                  · simp (maxSteps:=1000000)(dsimp:=false)(disch:=omega) only [go_sem, Φa, hP, h5_2, h5_3, h5_8]
                    first | done | exact congrArg _ (decide_eq_decide.2 (by omega)) | exact congrArg _ (decide_eq_true (by omega)).symm | exact congrArg _ (decide_eq_false (by omega)).symm
                  · simp (maxSteps:=1000000)(dsimp:=false)(disch:=omega) only [go_sem, Φa, hP, h5_2, h5_3, h5_8]
                  · simp (maxSteps:=1000000)(dsimp:=false)(disch:=omega) only [go_sem, Φa, hP, h5_2, h5_3, h5_8]
                  · rfl
                  · trivial
                · clear hX22 hY22 X22 Y22
                  refine SX.seq_k fun K23 hK23 => ?_
                  refine SX.region_d [some 49, some 45] rfl (fun ops hops => ?_)
                  unfold Dsts at hops
                  simp (maxSteps:=1000000)(dsimp:=false)(disch:=omega) only [go_sem, Φa, hP, h5_2, h5_3, h5_8, hops]
                  repeat' ((first | refine And.intro (by omega) ?_ | fail); try (with_reducible refine stI ?_); try simp (maxSteps:=1000000)(dsimp:=false)(disch:=omega) only [go_sem, Φa, hP, h5_2, h5_3, h5_8, hops])
                  refine hK23 _ _ ?_
                  try clear hK23 K23
                  refine SX.cond_k fun X24 Y24 hX24 hY24 => ?_
                  simp (maxSteps:=1000000)(dsimp:=false)(disch:=omega) only [go_sem, Φa, hP, h5_2, h5_3, h5_8, condVC]
                  refine ⟨fun hc45 => hX24 ?_, fun hc45 => hY24 ?_⟩
                  · clear hX24 hY24 X24 Y24
                    refine SX.skip ?_
                    try simp only [Φc, andThen_ret, Φd, Φe, inBlk_ret, inBlk_exit, Φb, if_true, if_false, ↓reduceIte]
                    refine hK16 () _ (some (b1, .cells o.cells.toArray 45 (0, 0)) :: some (b0, .cells (g.cells (.slice As g.st.length cs) (.slice Ap g.pg.length cp) (.slice Am g.mm.length cm)).toArray 29 (0, 0)) :: L) _ (by first | exact Less.refl _ | exact Less.drop _ _ | exact Less.drops (Less.drop _ _) | exact Less.drops (Less.drops (Less.drop _ _)) | exact Less.drops (Less.drops (Less.drops (Less.drop _ _))) | exact Less.drops (Less.drops (Less.drops (Less.drops (Less.drop _ _)))) | (simp (disch := omega) only [e1]; exact Less.refl _)) ?_
                    try dsimp only
                    refine ⟨?_, ?_, ?_, ?_, ?_⟩
                    · simp (maxSteps:=1000000)(dsimp:=false)(disch:=omega) only [go_sem, Φa, hP, h5_2, h5_3, h5_8]
                      first | done | exact congrArg _ (decide_eq_decide.2 (by omega)) | exact congrArg _ (decide_eq_true (by omega)).symm | exact congrArg _ (decide_eq_false (by omega)).symm
                    · simp (maxSteps:=1000000)(dsimp:=false)(disch:=omega) only [go_sem, Φa, hP, h5_2, h5_3, h5_8]
                    · simp (maxSteps:=1000000)(dsimp:=false)(disch:=omega) only [go_sem, Φa, hP, h5_2, h5_3, h5_8]
                    · rfl
                    · trivial
                  · clear hX24 hY24 X24 Y24
                    refine SX.seq_k fun K25 hK25 => ?_
                    refine SX.region_d [some 50, some 45] rfl (fun ops hops => ?_)
                    unfold Dsts at hops
                    simp (maxSteps:=1000000)(dsimp:=false)(disch:=omega) only [go_sem, Φa, hP, h5_2, h5_3, h5_8, hops]
                    repeat' ((first | refine And.intro (by omega) ?_ | fail); try (with_reducible refine stI ?_); try simp (maxSteps:=1000000)(dsimp:=false)(disch:=omega) only [go_sem, Φa, hP, h5_2, h5_3, h5_8, hops])
                    refine hK25 _ _ ?_
                    try clear hK25 K25
                    refine SX.live [2, 3, 8, 45] (fun T6 hT6 => ?_)
                    simp only [forall_mem_cons', forall_mem_nil', go_sem, Φa, hP, h5_2, h5_3, h5_8] at hT6
                    obtain ⟨h6_2, h6_3, h6_8, h6_45⟩ := hT6
                    clear h5_2 h5_3 h5_8 T5
                    refine SX.cond_k fun X26 Y26 hX26 hY26 => ?_
                    simp (maxSteps:=1000000)(dsimp:=false)(disch:=omega) only [go_sem, Φa, hP, h6_2, h6_3, h6_8, h6_45, condVC]
                    refine ⟨fun hc45 => hX26 ?_, fun hc45 => hY26 ?_⟩
                    · clear hX26 hY26 X26 Y26
                      refine SX.skip ?_
                      try simp only [Φc, andThen_ret, Φd, Φe, inBlk_ret, inBlk_exit, Φb, if_true, if_false, ↓reduceIte]
                      refine hK16 () _ (some (b1, .cells o.cells.toArray 45 (0, 0)) :: some (b0, .cells (g.cells (.slice As g.st.length cs) (.slice Ap g.pg.length cp) (.slice Am g.mm.length cm)).toArray 29 (0, 0)) :: L) _ (by first | exact Less.refl _ | exact Less.drop _ _ | exact Less.drops (Less.drop _ _) | exact Less.drops (Less.drops (Less.drop _ _)) | exact Less.drops (Less.drops (Less.drops (Less.drop _ _))) | exact Less.drops (Less.drops (Less.drops (Less.drops (Less.drop _ _)))) | (simp (disch := omega) only [e1]; exact Less.refl _)) ?_
                      try dsimp only
                      refine ⟨?_, ?_, ?_, ?_, ?_⟩
                      · simp (maxSteps:=1000000)(dsimp:=false)(disch:=omega) only [go_sem, Φa, hP, h6_2, h6_3, h6_8, h6_45]
                        first | done | exact congrArg _ (decide_eq_decide.2 (by omega)) | exact congrArg _ (decide_eq_true (by omega)).symm | exact congrArg _ (decide_eq_false (by omega)).symm
                      · simp (maxSteps:=1000000)(dsimp:=false)(disch:=omega) only [go_sem, Φa, hP, h6_2, h6_3, h6_8, h6_45]
                      · simp (maxSteps:=1000000)(dsimp:=false)(disch:=omega) only [go_sem, Φa, hP, h6_2, h6_3, h6_8, h6_45]
                      · rfl
                      · trivial
                    · clear hX26 hY26 X26 Y26
                      refine SX.region_d [some 51, some 45] rfl (fun ops hops => ?_)
                      unfold Dsts at hops
                      simp (maxSteps:=1000000)(dsimp:=false)(disch:=omega) only [go_sem, Φa, hP, h6_2, h6_3, h6_8, h6_45, hops]
                      repeat' ((first | refine And.intro (by omega) ?_ | fail); try (with_reducible refine stI ?_); try simp (maxSteps:=1000000)(dsimp:=false)(disch:=omega) only [go_sem, Φa, hP, h6_2, h6_3, h6_8, h6_45, hops])
                      refine hK16 () _ (some (b1, .cells o.cells.toArray 45 (0, 0)) :: some (b0, .cells (g.cells (.slice As g.st.length cs) (.slice Ap g.pg.length cp) (.slice Am g.mm.length cm)).toArray 29 (0, 0)) :: L) _ (by first | exact Less.refl _ | exact Less.drop _ _ | exact Less.drops (Less.drop _ _) | exact Less.drops (Less.drops (Less.drop _ _)) | exact Less.drops (Less.drops (Less.drops (Less.drop _ _))) | exact Less.drops (Less.drops (Less.drops (Less.drops (Less.drop _ _)))) | (simp (disch := omega) only [e1]; exact Less.refl _)) ?_
                      try dsimp only
                      refine ⟨?_, ?_, ?_, ?_, ?_⟩
                      · simp (maxSteps:=1000000)(dsimp:=false)(disch:=omega) only [go_sem, Φa, hP, h6_2, h6_3, h6_8, h6_45]
                        first | done | exact congrArg _ (decide_eq_decide.2 (by omega)) | exact congrArg _ (decide_eq_true (by omega)).symm | exact congrArg _ (decide_eq_false (by omega)).symm
                      · simp (maxSteps:=1000000)(dsimp:=false)(disch:=omega) only [go_sem, Φa, hP, h6_2, h6_3, h6_8, h6_45]
                      · simp (maxSteps:=1000000)(dsimp:=false)(disch:=omega) only [go_sem, Φa, hP, h6_2, h6_3, h6_8, h6_45]
                      · rfl
                      · trivial
          · intro ss T7 L7 hI
            simp only [h5_2, h5_3] at hI 
            obtain ⟨h7_45, h7_2, h7_3, hL7, hinv⟩ := hI
            replace hL7 := hL7.symm
            subst hL7
            clear h5_2 h5_3 h5_8 T5
            refine SX.cond_k fun X27 Y27 hX27 hY27 => ?_
            simp (maxSteps:=1000000)(dsimp:=false)(disch:=omega) only [go_sem, Φa, hP, h7_45, h7_2, h7_3, condVC]
            refine ⟨fun hc45 => hX27 ?_, fun hc45 => hY27 ?_⟩
            · clear hX27 hY27 X27 Y27
              refine SX.seq_k fun K28 hK28 => ?_
              refine SX.region_xd [some 52, some 53, some 54, some 55, some 56, some 57, some 58, some 59, some 60, some 61, some 62, some 63, some 6] rfl (fun ops hops => ?_)
              unfold Dsts at hops
              refine RX.live [2, 3] (fun T8 hT8 => ?_)
              simp only [forall_mem_cons', forall_mem_nil', go_sem, Φa, hP, h7_45, h7_2, h7_3] at hT8
              obtain ⟨h8_2, h8_3⟩ := hT8
              clear h7_45 h7_2 h7_3 T7
              refine RX.join 12 (fun (ss : Unit) T L' => T 63 = .bool (decide (pc = IntKind.u16.wrap (g.PC + 2)) || decide (pc = IntKind.u16.wrap (g.PC + 4))) ∧ L' = some (b1, .cells o.cells.toArray 45 (0, 0)) :: some (b0, .cells (g.cells (.slice As g.st.length cs) (.slice Ap g.pg.length cp) (.slice Am g.mm.length cm)).toArray 29 (0, 0)) :: L ∧ (True)) (fun K29 hK29 => ?_) ?_
              · simp (maxSteps:=1000000)(dsimp:=false)(disch:=omega) only [go_sem, Φa, hP, h8_2, h8_3, hops]
                repeat' (first | refine iteB (fun hg => ?_) (fun hg => ?_) | refine iteI (fun hg => ?_) (fun hg => ?_) | ((first | refine ⟨_, Cell.at 1 rfl (show (g.cells _ _ _)[17]? = _ from rfl), ?_⟩ | refine And.intro (by omega) ?_ | refine ⟨_, Cell.at 0 rfl rfl, ?_⟩ | refine ⟨_, Cell.at 1 rfl rfl, ?_⟩ | fail); try (with_reducible refine stI ?_); try simp (maxSteps:=1000000)(dsimp:=false)(disch:=omega) only [go_sem, Φa, hP, h8_2, h8_3, hops]) | fail)
                all_goals
                  refine hK29 () _ (some (b1, .cells o.cells.toArray 45 (0, 0)) :: some (b0, .cells (g.cells (.slice As g.st.length cs) (.slice Ap g.pg.length cp) (.slice Am g.mm.length cm)).toArray 29 (0, 0)) :: L) _ (by first | exact Less.refl _ | exact Less.drop _ _ | exact Less.drops (Less.drop _ _) | exact Less.drops (Less.drops (Less.drop _ _)) | exact Less.drops (Less.drops (Less.drops (Less.drop _ _))) | exact Less.drops (Less.drops (Less.drops (Less.drops (Less.drop _ _)))) | (simp (disch := omega) only [e1]; exact Less.refl _)) ?_
                  try dsimp only
                  refine ⟨?_, ?_, ?_⟩
                  · simp (maxSteps:=1000000)(dsimp:=false)(disch:=omega) only [go_sem, Φa, hP, h8_2, h8_3]
                    first | done | (refine congrArg Value.bool ?_; rw [Bool.eq_iff_iff]; simp only [Bool.or_eq_true, Bool.and_eq_true, Bool.not_eq_true', decide_eq_true_eq, decide_eq_false_iff_not, Bool.true_eq_false, Bool.false_eq_true, true_iff, iff_true, false_iff, iff_false, ne_eq]; omega) | (refine congrArg Value.bool ?_; simp_all; done)
                  · rfl
                  · trivial
              · intro ss T9 L9 hI
                obtain ⟨h9_63, hL9, hinv⟩ := hI
                replace hL9 := hL9.symm
                subst hL9
                clear h8_2 h8_3 T8
                refine RX.done ?_
                simp (maxSteps:=1000000)(dsimp:=false)(disch:=omega) only [go_sem, Φa, hP, h9_63, hops]
                refine hK28 _ _ ?_
                try clear hK28 K28
                refine SX.ret ?_
                simp only [Φc, andThen_ret, Φd, Φe, inBlk_ret, inBlk_exit, Φb, if_true, if_false, ↓reduceIte, retQ_ret]
                try simp only [res0, res1, res2, res3, stK_e, go_sem, Φa, hP, h9_63]
                refine ⟨_, _, Less.drops (Less.drop _ _), rfl, ?_, rfl⟩
                refine congrArg Value.bool ?_
                unfold wentB
                rw [if_neg (by omega), if_neg (by omega), if_neg (by omega), if_pos (by omega)]
                
            · clear hX27 hY27 X27 Y27
              refine SX.skip ?_
              try simp only [Φc, andThen_ret, Φd, Φe, inBlk_ret, inBlk_exit, Φb, if_true, if_false, ↓reduceIte]
              refine hK2 _ _ ?_
              try clear hK2 K2
              refine SX.seq_k fun K30 hK30 => ?_
              refine SX.region_d [some 64, some 65, some 66, some 67, some 68, some 6] rfl (fun ops hops => ?_)
              unfold Dsts at hops
              simp (maxSteps:=1000000)(dsimp:=false)(disch:=omega) only [go_sem, Φa, hP, h7_45, h7_2, h7_3, hops]
              refine ⟨_, Cell.at 1 rfl (show (g.cells _ _ _)[17]? = _ from rfl), ?_⟩
              try with_reducible refine stI ?_
              try simp (maxSteps:=1000000)(dsimp:=false)(disch:=omega) only [go_sem, Φa, hP, h7_45, h7_2, h7_3, hops]
              refine hK30 _ _ ?_
              try clear hK30 K30
              refine SX.ret ?_
              simp only [Φc, andThen_ret, Φd, Φe, inBlk_ret, inBlk_exit, Φb, if_true, if_false, ↓reduceIte, retQ_ret]
              try simp only [res0, res1, res2, res3, stK_e, go_sem, Φa, hP, h7_45, h7_2, h7_3]
              refine ⟨_, _, Less.drops (Less.drop _ _), rfl, ?_, rfl⟩
              refine congrArg Value.bool ?_
              unfold wentB
              rw [if_neg (by omega), if_neg (by omega), if_neg (by omega), if_neg (by omega)]
              

end Go.Proofs.Ytgioegdjeodpiaa
set_option linter.unusedVariables false
set_option linter.unusedSimpArgs false
namespace Go.Proofs.Ytgioegdjeodpiaa
open Go.RowKit Go.SX
/-! The document's words and orders: plain laws. -/
end Go.Proofs.Ytgioegdjeodpiaa
set_option linter.unusedVariables false
set_option linter.unusedSimpArgs false
namespace Go.Proofs.Ytgioegdjeodpiaa
open Go.RowKit Go.SX

end Go.Proofs.Ytgioegdjeodpiaa
set_option linter.unusedVariables false
set_option linter.unusedSimpArgs false
namespace Go.Proofs.Ytgioegdjeodpiaa
open Go.RowKit Go.SX
open Go.SX renaming ia_someH → Φa, forall_mem_cons' → Φb, forall_mem_nil' → Φc
open Nat renaming reduceEqDiff → Φd

theorem gV9 {g : GM} {sv pv mv : Value} {x : Nat} (h : x < 16) : (g.cells sv pv mv)[x]? = some (.int .u8 (g.V.getD x 0)) := by
  match x, h with
  | 0, _ | 1, _ | 2, _ | 3, _ | 4, _ | 5, _ | 6, _ | 7, _ | 8, _ | 9, _ | 10, _ | 11, _ | 12, _ | 13, _ | 14, _ | 15, _ => rfl
  | n + 16, h => omega
theorem nextG_okO {g : GM} : OkO (nextG g).1 := by
  have hz : OkO zeroO := ⟨by decide, by decide, by decide, by decide, by decide, by decide⟩
  unfold nextG
  split
  · exact hz
  · split
    · exact hz
    · split
      · exact hz
      · rename_i o ho
        split <;> exact (decode_dec ho).ok
set_option maxHeartbeats 4000000 in
set_option maxRecDepth 100000 in
theorem GameTouches_spec {Γ : Ctx} (hP : Γ.P = Try.prog) {L : Hp} {g : GM} {sv pv mv : Value} {d : Feed} (hd : OkD d) {f : Fnt} {fv : Value} (hg : OkG g) (hF : OkF f) (hs : SlI .u16 (Cell Γ []) sv g.st) (hp : SlI .u8 (Cell Γ []) pv g.pg) (hm : SlI .u8 (Cell Γ []) mv g.mm) (hf : SlI .u8 (Cell Γ []) fv f.bs) :
    SCall Γ 9 #[(.agg (g.cells sv pv mv).toArray), (.agg (f.cells fv).toArray), (.agg d.cells.toArray)] L (fun v L' => v = .bool true ∧ L' = L) := by
  obtain ⟨As, cs, rfl, hcs⟩ := slShape hs
  obtain ⟨Ap, cp, rfl, hcp⟩ := slShape hp
  obtain ⟨Am, cm, rfl, hcm⟩ := slShape hm
  obtain ⟨Af, cf, rfl, hcf⟩ := slShape hf
  refine SCall.enter (n := 257) (res1 6) (hP ▸ Try.func9) rfl rfl (by simp) (res1_ok rfl) ?_
  refine SX.seq_k fun K1 hK1 => ?_
  refine SX.region_d [some 3, some 4, some 5, some 6] rfl (fun ops hops => ?_)
  unfold Dsts at hops
  simp (maxSteps:=1000000)(dsimp:=false)(disch:=omega) only [go_sem, Φa, hP, hops]
  intro b0
  try with_reducible refine stI ?_
  try simp (maxSteps:=1000000)(dsimp:=false)(disch:=omega) only [go_sem, Φa, hP, hops]
  intro b1
  try with_reducible refine stI ?_
  try simp (maxSteps:=1000000)(dsimp:=false)(disch:=omega) only [go_sem, Φa, hP, hops]
  intro b2
  try with_reducible refine stI ?_
  try simp (maxSteps:=1000000)(dsimp:=false)(disch:=omega) only [go_sem, Φa, hP, hops]
  refine hK1 _ _ ?_
  try clear hK1 K1
  refine SX.seq_k fun K2 hK2 => ?_
  refine SX.region_d [some 21, some 7] rfl (fun ops hops => ?_)
  unfold Dsts at hops
  simp (maxSteps:=1000000)(dsimp:=false)(disch:=omega) only [go_sem, Φa, hP, hops]
  first | (refine SCall.mono (awake_spec hP) ?_; rintro v_ L_ ⟨hv_, hL_⟩; rw [hv_, hL_]; clear hv_ hL_ v_ L_) | refine ⟨_, awake_spec hP, ?_⟩ | refine ⟨_, fun L0 hl0 => awake_spec hP, ?_⟩
  try with_reducible refine stI ?_
  try simp (maxSteps:=1000000)(dsimp:=false)(disch:=omega) only [go_sem, Φa, hP, hops]
  refine hK2 _ _ ?_
  try clear hK2 K2
  refine SX.seq_k fun K3 hK3 => ?_
  refine SX.seq_k fun K4 hK4 => ?_
  refine SX.region_d [some 22, some 23, some 24] rfl (fun ops hops => ?_)
  unfold Dsts at hops
  simp (maxSteps:=1000000)(dsimp:=false)(disch:=omega) only [go_sem, Φa, hP, hops]
  refine ⟨_, Cell.at 2 rfl rfl, ?_⟩
  try with_reducible refine stI ?_
  try simp (maxSteps:=1000000)(dsimp:=false)(disch:=omega) only [go_sem, Φa, hP, hops]
  refine ⟨_, Cell.at 2 rfl rfl, ?_⟩
  try with_reducible refine stI ?_
  try simp (maxSteps:=1000000)(dsimp:=false)(disch:=omega) only [go_sem, Φa, hP, hops]
  refine ⟨_, Cell.at 2 rfl rfl, ?_⟩
  try with_reducible refine stI ?_
  try simp (maxSteps:=1000000)(dsimp:=false)(disch:=omega) only [go_sem, Φa, hP, hops]
  refine ⟨_, Cell.at 2 rfl rfl, ?_⟩
  try with_reducible refine stI ?_
  try simp (maxSteps:=1000000)(dsimp:=false)(disch:=omega) only [go_sem, Φa, hP, hops]
  refine ⟨_, Cell.at 2 rfl rfl, ?_⟩
  try with_reducible refine stI ?_
  try simp (maxSteps:=1000000)(dsimp:=false)(disch:=omega) only [go_sem, Φa, hP, hops]
  refine ⟨_, Cell.at 2 rfl rfl, ?_⟩
  try with_reducible refine stI ?_
  try simp (maxSteps:=1000000)(dsimp:=false)(disch:=omega) only [go_sem, Φa, hP, hops]
  refine ⟨_, Cell.at 2 rfl rfl, ?_⟩
  try with_reducible refine stI ?_
  try simp (maxSteps:=1000000)(dsimp:=false)(disch:=omega) only [go_sem, Φa, hP, hops]
  refine ⟨_, Cell.at 2 rfl rfl, ?_⟩
  try with_reducible refine stI ?_
  try simp (maxSteps:=1000000)(dsimp:=false)(disch:=omega) only [go_sem, Φa, hP, hops]
  refine ⟨_, Cell.at 2 rfl rfl, ?_⟩
  try with_reducible refine stI ?_
  try simp (maxSteps:=1000000)(dsimp:=false)(disch:=omega) only [go_sem, Φa, hP, hops]
  refine ⟨_, Cell.at 2 rfl rfl, ?_⟩
  try with_reducible refine stI ?_
  try simp (maxSteps:=1000000)(dsimp:=false)(disch:=omega) only [go_sem, Φa, hP, hops]
  refine ⟨_, Cell.at 2 rfl rfl, ?_⟩
  try with_reducible refine stI ?_
  try simp (maxSteps:=1000000)(dsimp:=false)(disch:=omega) only [go_sem, Φa, hP, hops]
  refine ⟨_, Cell.at 2 rfl rfl, ?_⟩
  try with_reducible refine stI ?_
  try simp (maxSteps:=1000000)(dsimp:=false)(disch:=omega) only [go_sem, Φa, hP, hops]
  refine ⟨_, Cell.at 2 rfl rfl, ?_⟩
  try with_reducible refine stI ?_
  try simp (maxSteps:=1000000)(dsimp:=false)(disch:=omega) only [go_sem, Φa, hP, hops]
  refine ⟨_, Cell.at 2 rfl rfl, ?_⟩
  try with_reducible refine stI ?_
  try simp (maxSteps:=1000000)(dsimp:=false)(disch:=omega) only [go_sem, Φa, hP, hops]
  refine ⟨_, Cell.at 2 rfl rfl, ?_⟩
  try with_reducible refine stI ?_
  try simp (maxSteps:=1000000)(dsimp:=false)(disch:=omega) only [go_sem, Φa, hP, hops]
  refine ⟨_, Cell.at 2 rfl rfl, ?_⟩
  try with_reducible refine stI ?_
  try simp (maxSteps:=1000000)(dsimp:=false)(disch:=omega) only [go_sem, Φa, hP, hops]
  refine ⟨_, Cell.at 2 rfl rfl, ?_⟩
  try with_reducible refine stI ?_
  try simp (maxSteps:=1000000)(dsimp:=false)(disch:=omega) only [go_sem, Φa, hP, hops]
  refine ⟨_, Cell.at 2 rfl rfl, ?_⟩
  try with_reducible refine stI ?_
  try simp (maxSteps:=1000000)(dsimp:=false)(disch:=omega) only [go_sem, Φa, hP, hops]
  refine ⟨_, Cell.at 2 rfl rfl, ?_⟩
  try with_reducible refine stI ?_
  try simp (maxSteps:=1000000)(dsimp:=false)(disch:=omega) only [go_sem, Φa, hP, hops]
  refine ⟨_, Cell.at 2 rfl rfl, ?_⟩
  try with_reducible refine stI ?_
  try simp (maxSteps:=1000000)(dsimp:=false)(disch:=omega) only [go_sem, Φa, hP, hops]
  refine ⟨_, Cell.at 2 rfl rfl, ?_⟩
  try with_reducible refine stI ?_
  try simp (maxSteps:=1000000)(dsimp:=false)(disch:=omega) only [go_sem, Φa, hP, hops]
  refine ⟨_, Cell.at 2 rfl rfl, ?_⟩
  try with_reducible refine stI ?_
  try simp (maxSteps:=1000000)(dsimp:=false)(disch:=omega) only [go_sem, Φa, hP, hops]
  refine ⟨_, Cell.at 2 rfl rfl, ?_⟩
  try with_reducible refine stI ?_
  try simp (maxSteps:=1000000)(dsimp:=false)(disch:=omega) only [go_sem, Φa, hP, hops]
  refine ⟨_, Cell.at 1 rfl rfl, ?_⟩
  try with_reducible refine stI ?_
  try simp (maxSteps:=1000000)(dsimp:=false)(disch:=omega) only [go_sem, Φa, hP, hops]
  refine ⟨_, Cell.at 1 rfl rfl, ?_⟩
  try with_reducible refine stI ?_
  try simp (maxSteps:=1000000)(dsimp:=false)(disch:=omega) only [go_sem, Φa, hP, hops]
  refine ⟨_, Cell.at 1 rfl rfl, ?_⟩
  try with_reducible refine stI ?_
  try simp (maxSteps:=1000000)(dsimp:=false)(disch:=omega) only [go_sem, Φa, hP, hops]
  refine ⟨_, Cell.at 1 rfl rfl, ?_⟩
  try with_reducible refine stI ?_
  try simp (maxSteps:=1000000)(dsimp:=false)(disch:=omega) only [go_sem, Φa, hP, hops]
  refine ⟨_, Cell.at 1 rfl rfl, ?_⟩
  try with_reducible refine stI ?_
  try simp (maxSteps:=1000000)(dsimp:=false)(disch:=omega) only [go_sem, Φa, hP, hops]
  refine ⟨_, Cell.at 1 rfl rfl, ?_⟩
  try with_reducible refine stI ?_
  try simp (maxSteps:=1000000)(dsimp:=false)(disch:=omega) only [go_sem, Φa, hP, hops]
  refine ⟨_, Cell.at 1 rfl rfl, ?_⟩
  try with_reducible refine stI ?_
  try simp (maxSteps:=1000000)(dsimp:=false)(disch:=omega) only [go_sem, Φa, hP, hops]
  refine ⟨_, Cell.at 1 rfl rfl, ?_⟩
  try with_reducible refine stI ?_
  try simp (maxSteps:=1000000)(dsimp:=false)(disch:=omega) only [go_sem, Φa, hP, hops]
  refine ⟨_, Cell.at 1 rfl rfl, ?_⟩
  try with_reducible refine stI ?_
  try simp (maxSteps:=1000000)(dsimp:=false)(disch:=omega) only [go_sem, Φa, hP, hops]
  refine ⟨_, Cell.at 1 rfl rfl, ?_⟩
  try with_reducible refine stI ?_
  try simp (maxSteps:=1000000)(dsimp:=false)(disch:=omega) only [go_sem, Φa, hP, hops]
  refine ⟨_, Cell.at 1 rfl rfl, ?_⟩
  try with_reducible refine stI ?_
  try simp (maxSteps:=1000000)(dsimp:=false)(disch:=omega) only [go_sem, Φa, hP, hops]
  refine ⟨_, Cell.at 1 rfl rfl, ?_⟩
  try with_reducible refine stI ?_
  try simp (maxSteps:=1000000)(dsimp:=false)(disch:=omega) only [go_sem, Φa, hP, hops]
  refine ⟨_, Cell.at 1 rfl rfl, ?_⟩
  try with_reducible refine stI ?_
  try simp (maxSteps:=1000000)(dsimp:=false)(disch:=omega) only [go_sem, Φa, hP, hops]
  refine ⟨_, Cell.at 1 rfl rfl, ?_⟩
  try with_reducible refine stI ?_
  try simp (maxSteps:=1000000)(dsimp:=false)(disch:=omega) only [go_sem, Φa, hP, hops]
  refine ⟨_, Cell.at 1 rfl rfl, ?_⟩
  try with_reducible refine stI ?_
  try simp (maxSteps:=1000000)(dsimp:=false)(disch:=omega) only [go_sem, Φa, hP, hops]
  refine ⟨_, Cell.at 1 rfl rfl, ?_⟩
  try with_reducible refine stI ?_
  try simp (maxSteps:=1000000)(dsimp:=false)(disch:=omega) only [go_sem, Φa, hP, hops]
  refine ⟨_, Cell.at 1 rfl rfl, ?_⟩
  try with_reducible refine stI ?_
  try simp (maxSteps:=1000000)(dsimp:=false)(disch:=omega) only [go_sem, Φa, hP, hops]
  refine ⟨_, Cell.at 1 rfl rfl, ?_⟩
  try with_reducible refine stI ?_
  try simp (maxSteps:=1000000)(dsimp:=false)(disch:=omega) only [go_sem, Φa, hP, hops]
  first | (refine SCall.mono (vast_spec (g := g) (f := f) hP (SlI.any hs) (SlI.any hp) (SlI.any hm) (SlI.any hf)) ?_; rintro v_ L_ ⟨hv_, hL_⟩; rw [hv_, hL_]; clear hv_ hL_ v_ L_) | refine ⟨_, vast_spec (g := g) (f := f) hP (SlI.any hs) (SlI.any hp) (SlI.any hm) (SlI.any hf), ?_⟩ | refine ⟨_, fun L0 hl0 => vast_spec (g := g) (f := f) hP (SlI.any hs) (SlI.any hp) (SlI.any hm) (SlI.any hf), ?_⟩
  try with_reducible refine stI ?_
  try simp (maxSteps:=1000000)(dsimp:=false)(disch:=omega) only [go_sem, Φa, hP, hops]
  refine hK4 _ _ ?_
  try clear hK4 K4
  refine SX.live [3, 4, 5, 7, 24] (fun T1 hT1 => ?_)
  simp only [Φb, Φc, go_sem, Φa, hP] at hT1
  obtain ⟨h1_3, h1_4, h1_5, h1_7, h1_24⟩ := hT1
  refine SX.cond_k fun X5 Y5 hX5 hY5 => ?_
  simp (maxSteps:=1000000)(dsimp:=false)(disch:=omega) only [go_sem, Φa, hP, h1_3, h1_4, h1_5, h1_7, h1_24, condVC]
  refine ⟨fun hc24 => hX5 ?_, fun hc24 => hY5 ?_⟩
  · clear hX5 hY5 X5 Y5
    refine SX.seq_k fun K6 hK6 => ?_
    refine SX.region_d [some 6] rfl (fun ops hops => ?_)
    unfold Dsts at hops
    simp (maxSteps:=1000000)(dsimp:=false)(disch:=omega) only [go_sem, Φa, hP, h1_3, h1_4, h1_5, h1_7, h1_24, hops]
    refine hK6 _ _ ?_
    try clear hK6 K6
    refine SX.ret ?_
    simp only [andThen_normal, andThen_ret, andThen_exit, inBlk_normal, inBlk_ret, inBlk_exit, Φd, if_true, if_false, ↓reduceIte, retQ_ret]
    try simp only [res0, res1, res2, res3, stK_e, go_sem, Φa, hP, h1_3, h1_4, h1_5, h1_7, h1_24]
    exact ⟨_, _, Less.tail [_, _, _] _, rfl, rfl, rfl⟩
  · clear hX5 hY5 X5 Y5
    refine SX.skip ?_
    try simp only [andThen_normal, andThen_ret, andThen_exit, inBlk_normal, inBlk_ret, inBlk_exit, Φd, if_true, if_false, ↓reduceIte]
    refine hK3 _ _ ?_
    try clear hK3 K3
    refine SX.seq_k fun K7 hK7 => ?_
    obtain ⟨hs1, hs2, hs3, hs4⟩ := vast_no (by simpa using hc24)
    refine SX.region_d [some 25, some 26, some 8] rfl (fun ops hops => ?_)
    unfold Dsts at hops
    simp (maxSteps:=1000000)(dsimp:=false)(disch:=omega) only [go_sem, Φa, hP, h1_3, h1_4, h1_5, h1_7, h1_24, hops]
    refine ⟨_, Cell.at 2 rfl rfl, ?_⟩
    try with_reducible refine stI ?_
    try simp (maxSteps:=1000000)(dsimp:=false)(disch:=omega) only [go_sem, Φa, hP, h1_3, h1_4, h1_5, h1_7, h1_24, hops]
    refine ⟨_, Cell.at 2 rfl rfl, ?_⟩
    try with_reducible refine stI ?_
    try simp (maxSteps:=1000000)(dsimp:=false)(disch:=omega) only [go_sem, Φa, hP, h1_3, h1_4, h1_5, h1_7, h1_24, hops]
    refine ⟨_, Cell.at 2 rfl rfl, ?_⟩
    try with_reducible refine stI ?_
    try simp (maxSteps:=1000000)(dsimp:=false)(disch:=omega) only [go_sem, Φa, hP, h1_3, h1_4, h1_5, h1_7, h1_24, hops]
    refine ⟨_, Cell.at 2 rfl rfl, ?_⟩
    try with_reducible refine stI ?_
    try simp (maxSteps:=1000000)(dsimp:=false)(disch:=omega) only [go_sem, Φa, hP, h1_3, h1_4, h1_5, h1_7, h1_24, hops]
    refine ⟨_, Cell.at 2 rfl rfl, ?_⟩
    try with_reducible refine stI ?_
    try simp (maxSteps:=1000000)(dsimp:=false)(disch:=omega) only [go_sem, Φa, hP, h1_3, h1_4, h1_5, h1_7, h1_24, hops]
    refine ⟨_, Cell.at 2 rfl rfl, ?_⟩
    try with_reducible refine stI ?_
    try simp (maxSteps:=1000000)(dsimp:=false)(disch:=omega) only [go_sem, Φa, hP, h1_3, h1_4, h1_5, h1_7, h1_24, hops]
    refine ⟨_, Cell.at 2 rfl rfl, ?_⟩
    try with_reducible refine stI ?_
    try simp (maxSteps:=1000000)(dsimp:=false)(disch:=omega) only [go_sem, Φa, hP, h1_3, h1_4, h1_5, h1_7, h1_24, hops]
    refine ⟨_, Cell.at 2 rfl rfl, ?_⟩
    try with_reducible refine stI ?_
    try simp (maxSteps:=1000000)(dsimp:=false)(disch:=omega) only [go_sem, Φa, hP, h1_3, h1_4, h1_5, h1_7, h1_24, hops]
    refine ⟨_, Cell.at 2 rfl rfl, ?_⟩
    try with_reducible refine stI ?_
    try simp (maxSteps:=1000000)(dsimp:=false)(disch:=omega) only [go_sem, Φa, hP, h1_3, h1_4, h1_5, h1_7, h1_24, hops]
    refine ⟨_, Cell.at 2 rfl rfl, ?_⟩
    try with_reducible refine stI ?_
    try simp (maxSteps:=1000000)(dsimp:=false)(disch:=omega) only [go_sem, Φa, hP, h1_3, h1_4, h1_5, h1_7, h1_24, hops]
    refine ⟨_, Cell.at 2 rfl rfl, ?_⟩
    try with_reducible refine stI ?_
    try simp (maxSteps:=1000000)(dsimp:=false)(disch:=omega) only [go_sem, Φa, hP, h1_3, h1_4, h1_5, h1_7, h1_24, hops]
    refine ⟨_, Cell.at 2 rfl rfl, ?_⟩
    try with_reducible refine stI ?_
    try simp (maxSteps:=1000000)(dsimp:=false)(disch:=omega) only [go_sem, Φa, hP, h1_3, h1_4, h1_5, h1_7, h1_24, hops]
    refine ⟨_, Cell.at 2 rfl rfl, ?_⟩
    try with_reducible refine stI ?_
    try simp (maxSteps:=1000000)(dsimp:=false)(disch:=omega) only [go_sem, Φa, hP, h1_3, h1_4, h1_5, h1_7, h1_24, hops]
    refine ⟨_, Cell.at 2 rfl rfl, ?_⟩
    try with_reducible refine stI ?_
    try simp (maxSteps:=1000000)(dsimp:=false)(disch:=omega) only [go_sem, Φa, hP, h1_3, h1_4, h1_5, h1_7, h1_24, hops]
    refine ⟨_, Cell.at 2 rfl rfl, ?_⟩
    try with_reducible refine stI ?_
    try simp (maxSteps:=1000000)(dsimp:=false)(disch:=omega) only [go_sem, Φa, hP, h1_3, h1_4, h1_5, h1_7, h1_24, hops]
    refine ⟨_, Cell.at 2 rfl rfl, ?_⟩
    try with_reducible refine stI ?_
    try simp (maxSteps:=1000000)(dsimp:=false)(disch:=omega) only [go_sem, Φa, hP, h1_3, h1_4, h1_5, h1_7, h1_24, hops]
    refine ⟨_, Cell.at 2 rfl rfl, ?_⟩
    try with_reducible refine stI ?_
    try simp (maxSteps:=1000000)(dsimp:=false)(disch:=omega) only [go_sem, Φa, hP, h1_3, h1_4, h1_5, h1_7, h1_24, hops]
    refine ⟨_, Cell.at 2 rfl rfl, ?_⟩
    try with_reducible refine stI ?_
    try simp (maxSteps:=1000000)(dsimp:=false)(disch:=omega) only [go_sem, Φa, hP, h1_3, h1_4, h1_5, h1_7, h1_24, hops]
    refine ⟨_, Cell.at 2 rfl rfl, ?_⟩
    try with_reducible refine stI ?_
    try simp (maxSteps:=1000000)(dsimp:=false)(disch:=omega) only [go_sem, Φa, hP, h1_3, h1_4, h1_5, h1_7, h1_24, hops]
    refine ⟨_, Cell.at 2 rfl rfl, ?_⟩
    try with_reducible refine stI ?_
    try simp (maxSteps:=1000000)(dsimp:=false)(disch:=omega) only [go_sem, Φa, hP, h1_3, h1_4, h1_5, h1_7, h1_24, hops]
    refine ⟨_, Cell.at 2 rfl rfl, ?_⟩
    try with_reducible refine stI ?_
    try simp (maxSteps:=1000000)(dsimp:=false)(disch:=omega) only [go_sem, Φa, hP, h1_3, h1_4, h1_5, h1_7, h1_24, hops]
    refine ⟨_, Cell.at 2 rfl rfl, ?_⟩
    try with_reducible refine stI ?_
    try simp (maxSteps:=1000000)(dsimp:=false)(disch:=omega) only [go_sem, Φa, hP, h1_3, h1_4, h1_5, h1_7, h1_24, hops]
    refine ⟨_, Cell.at 2 rfl rfl, ?_⟩
    try with_reducible refine stI ?_
    try simp (maxSteps:=1000000)(dsimp:=false)(disch:=omega) only [go_sem, Φa, hP, h1_3, h1_4, h1_5, h1_7, h1_24, hops]
    first | (refine SCall.mono (refCheck_spec (g := g) hP (SlI.any hs) (SlI.any hp) (SlI.any hm) (by omega) (by omega) (by omega)) ?_; rintro v_ L_ ⟨hv_, hL_⟩; rw [hv_, hL_]; clear hv_ hL_ v_ L_) | refine ⟨_, refCheck_spec (g := g) hP (SlI.any hs) (SlI.any hp) (SlI.any hm) (by omega) (by omega) (by omega), ?_⟩ | refine ⟨_, fun L0 hl0 => refCheck_spec (g := g) hP (SlI.any hs) (SlI.any hp) (SlI.any hm) (by omega) (by omega) (by omega), ?_⟩
    try with_reducible refine stI ?_
    try simp (maxSteps:=1000000)(dsimp:=false)(disch:=omega) only [go_sem, Φa, hP, h1_3, h1_4, h1_5, h1_7, h1_24, hops]
    refine hK7 _ _ ?_
    try clear hK7 K7
    refine SX.seq_k fun K8 hK8 => ?_
    refine SX.seq_k fun K9 hK9 => ?_
    refine SX.region_xd [some 27, some 28, some 29, some 30, some 31, some 32] rfl (fun ops hops => ?_)
    unfold Dsts at hops
    refine RX.live [3, 4, 5, 7, 8] (fun T2 hT2 => ?_)
    simp only [Φb, Φc, go_sem, Φa, hP, h1_3, h1_4, h1_5, h1_7, h1_24] at hT2
    obtain ⟨h2_3, h2_4, h2_5, h2_7, h2_8⟩ := hT2
    clear h1_3 h1_4 h1_5 h1_7 h1_24 T1
    refine RX.join 6 (fun (ss : Unit) T L' => T 32 = .bool (!decide (checkE g = 0)) ∧ T 3 = T2 3 ∧ T 4 = T2 4 ∧ T 5 = T2 5 ∧ T 7 = T2 7 ∧ L' = some (b2, .cells d.cells.toArray 50 (0, 0)) :: some (b1, .cells (f.cells (.slice Af f.bs.length cf)).toArray 40 (0, 0)) :: some (b0, .cells (g.cells (.slice As g.st.length cs) (.slice Ap g.pg.length cp) (.slice Am g.mm.length cm)).toArray 29 (0, 0)) :: L ∧ (True)) (fun K10 hK10 => ?_) ?_
    · simp only [h2_3, h2_4, h2_5, h2_7] at hK10
      simp (maxSteps:=1000000)(dsimp:=false)(disch:=omega) only [go_sem, Φa, hP, h2_3, h2_4, h2_5, h2_7, h2_8, hops]
      repeat' (first | refine iteB (fun hg => ?_) (fun hg => ?_) | refine iteI (fun hg => ?_) (fun hg => ?_) | ((first | refine And.intro (by omega) ?_ | refine ⟨_, Cell.at 0 rfl rfl, ?_⟩ | refine ⟨_, Cell.at 1 rfl rfl, ?_⟩ | refine ⟨_, Cell.at 2 rfl rfl, ?_⟩ | fail); try (with_reducible refine stI ?_); try simp (maxSteps:=1000000)(dsimp:=false)(disch:=omega) only [go_sem, Φa, hP, h2_3, h2_4, h2_5, h2_7, h2_8, hops]) | fail)
      all_goals
        refine hK10 () _ (some (b2, .cells d.cells.toArray 50 (0, 0)) :: some (b1, .cells (f.cells (.slice Af f.bs.length cf)).toArray 40 (0, 0)) :: some (b0, .cells (g.cells (.slice As g.st.length cs) (.slice Ap g.pg.length cp) (.slice Am g.mm.length cm)).toArray 29 (0, 0)) :: L) _ (by first | exact Less.refl _ | exact Less.drop _ _ | exact Less.drops (Less.drop _ _) | exact Less.drops (Less.drops (Less.drop _ _)) | exact Less.drops (Less.drops (Less.drops (Less.drop _ _))) | exact Less.drops (Less.drops (Less.drops (Less.drops (Less.drop _ _)))) | (simp (disch := omega) only [e1, e2]; exact Less.refl _)) ?_
        try dsimp only
        refine ⟨?_, ?_, ?_, ?_, ?_, ?_, ?_⟩
        · simp (maxSteps:=1000000)(dsimp:=false)(disch:=omega) only [go_sem, Φa, hP, h2_3, h2_4, h2_5, h2_7, h2_8]
          first | done | (refine congrArg Value.bool ?_; simp_all; done)
        · simp (maxSteps:=1000000)(dsimp:=false)(disch:=omega) only [go_sem, Φa, hP, h2_3, h2_4, h2_5, h2_7, h2_8]
        · simp (maxSteps:=1000000)(dsimp:=false)(disch:=omega) only [go_sem, Φa, hP, h2_3, h2_4, h2_5, h2_7, h2_8]
        · simp (maxSteps:=1000000)(dsimp:=false)(disch:=omega) only [go_sem, Φa, hP, h2_3, h2_4, h2_5, h2_7, h2_8]
        · simp (maxSteps:=1000000)(dsimp:=false)(disch:=omega) only [go_sem, Φa, hP, h2_3, h2_4, h2_5, h2_7, h2_8]
        · rfl
        · trivial
    · intro ss T3 L3 hI
      simp only [h2_3, h2_4, h2_5, h2_7] at hI 
      obtain ⟨h3_32, h3_3, h3_4, h3_5, h3_7, hL3, hinv⟩ := hI
      replace hL3 := hL3.symm
      subst hL3
      clear h2_3 h2_4 h2_5 h2_7 h2_8 T2
      refine RX.done ?_
      simp (maxSteps:=1000000)(dsimp:=false)(disch:=omega) only [go_sem, Φa, hP, h3_32, h3_3, h3_4, h3_5, h3_7, hops]
      refine hK9 _ _ ?_
      try clear hK9 K9
      refine SX.cond_k fun X11 Y11 hX11 hY11 => ?_
      simp (maxSteps:=1000000)(dsimp:=false)(disch:=omega) only [go_sem, Φa, hP, h3_32, h3_3, h3_4, h3_5, h3_7, condVC]
      refine ⟨fun hc32 => hX11 ?_, fun hc32 => hY11 ?_⟩
      · clear hX11 hY11 X11 Y11
        refine SX.seq_k fun K12 hK12 => ?_
        refine SX.region_d [some 33, some 6] rfl (fun ops hops => ?_)
        unfold Dsts at hops
        simp (maxSteps:=1000000)(dsimp:=false)(disch:=omega) only [go_sem, Φa, hP, h3_32, h3_3, h3_4, h3_5, h3_7, hops]
        refine hK12 _ _ ?_
        try clear hK12 K12
        refine SX.ret ?_
        simp only [andThen_normal, andThen_ret, andThen_exit, inBlk_normal, inBlk_ret, inBlk_exit, Φd, if_true, if_false, ↓reduceIte, retQ_ret]
        try simp only [res0, res1, res2, res3, stK_e, go_sem, Φa, hP, h3_32, h3_3, h3_4, h3_5, h3_7]
        exact ⟨_, _, Less.tail [_, _, _] _, rfl, rfl, rfl⟩
      · clear hX11 hY11 X11 Y11
        refine SX.skip ?_
        try simp only [andThen_normal, andThen_ret, andThen_exit, inBlk_normal, inBlk_ret, inBlk_exit, Φd, if_true, if_false, ↓reduceIte]
        refine hK8 _ _ ?_
        try clear hK8 K8
        refine SX.seq_k fun K13 hK13 => ?_
        have hc0 : checkE g = 0 := by simpa using hc32
        have hfine := fine_of hg hc0
        refine SX.region_d [some 35, some 36, some 34, some 37, some 38, some 9, none, some 10] rfl (fun ops hops => ?_)
        unfold Dsts at hops
        simp (maxSteps:=1000000)(dsimp:=false)(disch:=omega) only [go_sem, Φa, hP, h3_32, h3_3, h3_4, h3_5, h3_7, hops]
        refine ⟨_, Cell.at 2 rfl rfl, ?_⟩
        try with_reducible refine stI ?_
        try simp (maxSteps:=1000000)(dsimp:=false)(disch:=omega) only [go_sem, Φa, hP, h3_32, h3_3, h3_4, h3_5, h3_7, hops]
        refine ⟨_, Cell.at 2 rfl rfl, ?_⟩
        try with_reducible refine stI ?_
        try simp (maxSteps:=1000000)(dsimp:=false)(disch:=omega) only [go_sem, Φa, hP, h3_32, h3_3, h3_4, h3_5, h3_7, hops]
        refine ⟨_, Cell.at 2 rfl rfl, ?_⟩
        try with_reducible refine stI ?_
        try simp (maxSteps:=1000000)(dsimp:=false)(disch:=omega) only [go_sem, Φa, hP, h3_32, h3_3, h3_4, h3_5, h3_7, hops]
        refine ⟨_, Cell.at 2 rfl rfl, ?_⟩
        try with_reducible refine stI ?_
        try simp (maxSteps:=1000000)(dsimp:=false)(disch:=omega) only [go_sem, Φa, hP, h3_32, h3_3, h3_4, h3_5, h3_7, hops]
        refine ⟨_, Cell.at 2 rfl rfl, ?_⟩
        try with_reducible refine stI ?_
        try simp (maxSteps:=1000000)(dsimp:=false)(disch:=omega) only [go_sem, Φa, hP, h3_32, h3_3, h3_4, h3_5, h3_7, hops]
        refine ⟨_, Cell.at 2 rfl rfl, ?_⟩
        try with_reducible refine stI ?_
        try simp (maxSteps:=1000000)(dsimp:=false)(disch:=omega) only [go_sem, Φa, hP, h3_32, h3_3, h3_4, h3_5, h3_7, hops]
        refine ⟨_, Cell.at 2 rfl rfl, ?_⟩
        try with_reducible refine stI ?_
        try simp (maxSteps:=1000000)(dsimp:=false)(disch:=omega) only [go_sem, Φa, hP, h3_32, h3_3, h3_4, h3_5, h3_7, hops]
        refine ⟨_, Cell.at 2 rfl rfl, ?_⟩
        try with_reducible refine stI ?_
        try simp (maxSteps:=1000000)(dsimp:=false)(disch:=omega) only [go_sem, Φa, hP, h3_32, h3_3, h3_4, h3_5, h3_7, hops]
        refine ⟨_, Cell.at 2 rfl rfl, ?_⟩
        try with_reducible refine stI ?_
        try simp (maxSteps:=1000000)(dsimp:=false)(disch:=omega) only [go_sem, Φa, hP, h3_32, h3_3, h3_4, h3_5, h3_7, hops]
        refine ⟨_, Cell.at 2 rfl rfl, ?_⟩
        try with_reducible refine stI ?_
        try simp (maxSteps:=1000000)(dsimp:=false)(disch:=omega) only [go_sem, Φa, hP, h3_32, h3_3, h3_4, h3_5, h3_7, hops]
        refine ⟨_, Cell.at 2 rfl rfl, ?_⟩
        try with_reducible refine stI ?_
        try simp (maxSteps:=1000000)(dsimp:=false)(disch:=omega) only [go_sem, Φa, hP, h3_32, h3_3, h3_4, h3_5, h3_7, hops]
        refine ⟨_, Cell.at 2 rfl rfl, ?_⟩
        try with_reducible refine stI ?_
        try simp (maxSteps:=1000000)(dsimp:=false)(disch:=omega) only [go_sem, Φa, hP, h3_32, h3_3, h3_4, h3_5, h3_7, hops]
        refine ⟨_, Cell.at 2 rfl rfl, ?_⟩
        try with_reducible refine stI ?_
        try simp (maxSteps:=1000000)(dsimp:=false)(disch:=omega) only [go_sem, Φa, hP, h3_32, h3_3, h3_4, h3_5, h3_7, hops]
        refine ⟨_, Cell.at 2 rfl rfl, ?_⟩
        try with_reducible refine stI ?_
        try simp (maxSteps:=1000000)(dsimp:=false)(disch:=omega) only [go_sem, Φa, hP, h3_32, h3_3, h3_4, h3_5, h3_7, hops]
        refine ⟨_, Cell.at 2 rfl rfl, ?_⟩
        try with_reducible refine stI ?_
        try simp (maxSteps:=1000000)(dsimp:=false)(disch:=omega) only [go_sem, Φa, hP, h3_32, h3_3, h3_4, h3_5, h3_7, hops]
        refine ⟨_, Cell.at 2 rfl rfl, ?_⟩
        try with_reducible refine stI ?_
        try simp (maxSteps:=1000000)(dsimp:=false)(disch:=omega) only [go_sem, Φa, hP, h3_32, h3_3, h3_4, h3_5, h3_7, hops]
        refine ⟨_, Cell.at 2 rfl rfl, ?_⟩
        try with_reducible refine stI ?_
        try simp (maxSteps:=1000000)(dsimp:=false)(disch:=omega) only [go_sem, Φa, hP, h3_32, h3_3, h3_4, h3_5, h3_7, hops]
        refine ⟨_, Cell.at 2 rfl rfl, ?_⟩
        try with_reducible refine stI ?_
        try simp (maxSteps:=1000000)(dsimp:=false)(disch:=omega) only [go_sem, Φa, hP, h3_32, h3_3, h3_4, h3_5, h3_7, hops]
        refine ⟨_, Cell.at 2 rfl rfl, ?_⟩
        try with_reducible refine stI ?_
        try simp (maxSteps:=1000000)(dsimp:=false)(disch:=omega) only [go_sem, Φa, hP, h3_32, h3_3, h3_4, h3_5, h3_7, hops]
        refine ⟨_, Cell.at 2 rfl rfl, ?_⟩
        try with_reducible refine stI ?_
        try simp (maxSteps:=1000000)(dsimp:=false)(disch:=omega) only [go_sem, Φa, hP, h3_32, h3_3, h3_4, h3_5, h3_7, hops]
        refine ⟨_, Cell.at 2 rfl rfl, ?_⟩
        try with_reducible refine stI ?_
        try simp (maxSteps:=1000000)(dsimp:=false)(disch:=omega) only [go_sem, Φa, hP, h3_32, h3_3, h3_4, h3_5, h3_7, hops]
        refine ⟨_, Cell.at 2 rfl rfl, ?_⟩
        try with_reducible refine stI ?_
        try simp (maxSteps:=1000000)(dsimp:=false)(disch:=omega) only [go_sem, Φa, hP, h3_32, h3_3, h3_4, h3_5, h3_7, hops]
        refine ⟨_, Cell.at 2 rfl rfl, ?_⟩
        try with_reducible refine stI ?_
        try simp (maxSteps:=1000000)(dsimp:=false)(disch:=omega) only [go_sem, Φa, hP, h3_32, h3_3, h3_4, h3_5, h3_7, hops]
        first | (refine SCall.mono (Next_spec (g := g) hP hg (SlI.any hs) (SlI.any hp) (SlI.any hm) (by omega) (by omega) (by omega)) ?_; rintro v_ L_ ⟨hv_, hL_⟩; rw [hv_, hL_]; clear hv_ hL_ v_ L_) | refine ⟨_, Next_spec (g := g) hP hg (SlI.any hs) (SlI.any hp) (SlI.any hm) (by omega) (by omega) (by omega), ?_⟩ | refine ⟨_, fun L0 hl0 => Next_spec (g := g) hP hg (SlI.any hs) (SlI.any hp) (SlI.any hm) (by omega) (by omega) (by omega), ?_⟩
        unfold nextV Ord.cells
        try with_reducible refine stI ?_
        try simp (maxSteps:=1000000)(dsimp:=false)(disch:=omega) only [go_sem, Φa, hP, h3_32, h3_3, h3_4, h3_5, h3_7, hops]
        intro b7
        try with_reducible refine stI ?_
        try simp (maxSteps:=1000000)(dsimp:=false)(disch:=omega) only [go_sem, Φa, hP, h3_32, h3_3, h3_4, h3_5, h3_7, hops]
        refine ⟨0, _, _, _, rfl, by decide, .inr (by decide), ?_⟩
        try with_reducible refine stI ?_
        try simp (maxSteps:=1000000)(dsimp:=false)(disch:=omega) only [go_sem, Φa, hP, h3_32, h3_3, h3_4, h3_5, h3_7, hops]
        refine hK13 _ _ ?_
        try clear hK13 K13
        refine SX.seq_k fun K14 hK14 => ?_
        refine SX.region_d [some 40, some 41, some 42, some 43, some 39, some 44, some 45, some 46, some 11, none, some 12, some 13] rfl (fun ops hops => ?_)
        unfold Dsts at hops
        simp (maxSteps:=1000000)(dsimp:=false)(disch:=omega) only [go_sem, Φa, hP, h3_32, h3_3, h3_4, h3_5, h3_7, hops]
        refine ⟨_, Cell.at 3 rfl rfl, ?_⟩
        try with_reducible refine stI ?_
        try simp (maxSteps:=1000000)(dsimp:=false)(disch:=omega) only [go_sem, Φa, hP, h3_32, h3_3, h3_4, h3_5, h3_7, hops]
        refine ⟨_, Cell.at 3 rfl rfl, ?_⟩
        try with_reducible refine stI ?_
        try simp (maxSteps:=1000000)(dsimp:=false)(disch:=omega) only [go_sem, Φa, hP, h3_32, h3_3, h3_4, h3_5, h3_7, hops]
        refine ⟨_, Cell.at 3 rfl rfl, ?_⟩
        try with_reducible refine stI ?_
        try simp (maxSteps:=1000000)(dsimp:=false)(disch:=omega) only [go_sem, Φa, hP, h3_32, h3_3, h3_4, h3_5, h3_7, hops]
        refine ⟨_, Cell.at 3 rfl rfl, ?_⟩
        try with_reducible refine stI ?_
        try simp (maxSteps:=1000000)(dsimp:=false)(disch:=omega) only [go_sem, Φa, hP, h3_32, h3_3, h3_4, h3_5, h3_7, hops]
        refine ⟨_, Cell.at 3 rfl rfl, ?_⟩
        try with_reducible refine stI ?_
        try simp (maxSteps:=1000000)(dsimp:=false)(disch:=omega) only [go_sem, Φa, hP, h3_32, h3_3, h3_4, h3_5, h3_7, hops]
        refine ⟨_, Cell.at 3 rfl rfl, ?_⟩
        try with_reducible refine stI ?_
        try simp (maxSteps:=1000000)(dsimp:=false)(disch:=omega) only [go_sem, Φa, hP, h3_32, h3_3, h3_4, h3_5, h3_7, hops]
        refine ⟨_, Cell.at 3 rfl rfl, ?_⟩
        try with_reducible refine stI ?_
        try simp (maxSteps:=1000000)(dsimp:=false)(disch:=omega) only [go_sem, Φa, hP, h3_32, h3_3, h3_4, h3_5, h3_7, hops]
        refine ⟨_, Cell.at 3 rfl rfl, ?_⟩
        try with_reducible refine stI ?_
        try simp (maxSteps:=1000000)(dsimp:=false)(disch:=omega) only [go_sem, Φa, hP, h3_32, h3_3, h3_4, h3_5, h3_7, hops]
        refine ⟨_, Cell.at 3 rfl rfl, ?_⟩
        try with_reducible refine stI ?_
        try simp (maxSteps:=1000000)(dsimp:=false)(disch:=omega) only [go_sem, Φa, hP, h3_32, h3_3, h3_4, h3_5, h3_7, hops]
        refine ⟨_, Cell.at 3 rfl rfl, ?_⟩
        try with_reducible refine stI ?_
        try simp (maxSteps:=1000000)(dsimp:=false)(disch:=omega) only [go_sem, Φa, hP, h3_32, h3_3, h3_4, h3_5, h3_7, hops]
        refine ⟨_, Cell.at 3 rfl rfl, ?_⟩
        try with_reducible refine stI ?_
        try simp (maxSteps:=1000000)(dsimp:=false)(disch:=omega) only [go_sem, Φa, hP, h3_32, h3_3, h3_4, h3_5, h3_7, hops]
        refine ⟨_, Cell.at 3 rfl rfl, ?_⟩
        try with_reducible refine stI ?_
        try simp (maxSteps:=1000000)(dsimp:=false)(disch:=omega) only [go_sem, Φa, hP, h3_32, h3_3, h3_4, h3_5, h3_7, hops]
        refine ⟨_, Cell.at 3 rfl rfl, ?_⟩
        try with_reducible refine stI ?_
        try simp (maxSteps:=1000000)(dsimp:=false)(disch:=omega) only [go_sem, Φa, hP, h3_32, h3_3, h3_4, h3_5, h3_7, hops]
        refine ⟨_, Cell.at 3 rfl rfl, ?_⟩
        try with_reducible refine stI ?_
        try simp (maxSteps:=1000000)(dsimp:=false)(disch:=omega) only [go_sem, Φa, hP, h3_32, h3_3, h3_4, h3_5, h3_7, hops]
        refine ⟨_, Cell.at 3 rfl rfl, ?_⟩
        try with_reducible refine stI ?_
        try simp (maxSteps:=1000000)(dsimp:=false)(disch:=omega) only [go_sem, Φa, hP, h3_32, h3_3, h3_4, h3_5, h3_7, hops]
        refine ⟨_, Cell.at 3 rfl rfl, ?_⟩
        try with_reducible refine stI ?_
        try simp (maxSteps:=1000000)(dsimp:=false)(disch:=omega) only [go_sem, Φa, hP, h3_32, h3_3, h3_4, h3_5, h3_7, hops]
        refine ⟨_, Cell.at 3 rfl rfl, ?_⟩
        try with_reducible refine stI ?_
        try simp (maxSteps:=1000000)(dsimp:=false)(disch:=omega) only [go_sem, Φa, hP, h3_32, h3_3, h3_4, h3_5, h3_7, hops]
        refine ⟨_, Cell.at 3 rfl rfl, ?_⟩
        try with_reducible refine stI ?_
        try simp (maxSteps:=1000000)(dsimp:=false)(disch:=omega) only [go_sem, Φa, hP, h3_32, h3_3, h3_4, h3_5, h3_7, hops]
        refine ⟨_, Cell.at 3 rfl rfl, ?_⟩
        try with_reducible refine stI ?_
        try simp (maxSteps:=1000000)(dsimp:=false)(disch:=omega) only [go_sem, Φa, hP, h3_32, h3_3, h3_4, h3_5, h3_7, hops]
        refine ⟨_, Cell.at 3 rfl rfl, ?_⟩
        try with_reducible refine stI ?_
        try simp (maxSteps:=1000000)(dsimp:=false)(disch:=omega) only [go_sem, Φa, hP, h3_32, h3_3, h3_4, h3_5, h3_7, hops]
        refine ⟨_, Cell.at 3 rfl rfl, ?_⟩
        try with_reducible refine stI ?_
        try simp (maxSteps:=1000000)(dsimp:=false)(disch:=omega) only [go_sem, Φa, hP, h3_32, h3_3, h3_4, h3_5, h3_7, hops]
        refine ⟨_, Cell.at 3 rfl rfl, ?_⟩
        try with_reducible refine stI ?_
        try simp (maxSteps:=1000000)(dsimp:=false)(disch:=omega) only [go_sem, Φa, hP, h3_32, h3_3, h3_4, h3_5, h3_7, hops]
        refine ⟨_, Cell.at 3 rfl rfl, ?_⟩
        try with_reducible refine stI ?_
        try simp (maxSteps:=1000000)(dsimp:=false)(disch:=omega) only [go_sem, Φa, hP, h3_32, h3_3, h3_4, h3_5, h3_7, hops]
        refine ⟨_, Cell.at 2 rfl rfl, ?_⟩
        try with_reducible refine stI ?_
        try simp (maxSteps:=1000000)(dsimp:=false)(disch:=omega) only [go_sem, Φa, hP, h3_32, h3_3, h3_4, h3_5, h3_7, hops]
        refine ⟨_, Cell.at 2 rfl rfl, ?_⟩
        try with_reducible refine stI ?_
        try simp (maxSteps:=1000000)(dsimp:=false)(disch:=omega) only [go_sem, Φa, hP, h3_32, h3_3, h3_4, h3_5, h3_7, hops]
        refine ⟨_, Cell.at 2 rfl rfl, ?_⟩
        try with_reducible refine stI ?_
        try simp (maxSteps:=1000000)(dsimp:=false)(disch:=omega) only [go_sem, Φa, hP, h3_32, h3_3, h3_4, h3_5, h3_7, hops]
        refine ⟨_, Cell.at 2 rfl rfl, ?_⟩
        try with_reducible refine stI ?_
        try simp (maxSteps:=1000000)(dsimp:=false)(disch:=omega) only [go_sem, Φa, hP, h3_32, h3_3, h3_4, h3_5, h3_7, hops]
        refine ⟨_, Cell.at 2 rfl rfl, ?_⟩
        try with_reducible refine stI ?_
        try simp (maxSteps:=1000000)(dsimp:=false)(disch:=omega) only [go_sem, Φa, hP, h3_32, h3_3, h3_4, h3_5, h3_7, hops]
        refine ⟨_, Cell.at 2 rfl rfl, ?_⟩
        try with_reducible refine stI ?_
        try simp (maxSteps:=1000000)(dsimp:=false)(disch:=omega) only [go_sem, Φa, hP, h3_32, h3_3, h3_4, h3_5, h3_7, hops]
        refine ⟨_, Cell.at 2 rfl rfl, ?_⟩
        try with_reducible refine stI ?_
        try simp (maxSteps:=1000000)(dsimp:=false)(disch:=omega) only [go_sem, Φa, hP, h3_32, h3_3, h3_4, h3_5, h3_7, hops]
        refine ⟨_, Cell.at 2 rfl rfl, ?_⟩
        try with_reducible refine stI ?_
        try simp (maxSteps:=1000000)(dsimp:=false)(disch:=omega) only [go_sem, Φa, hP, h3_32, h3_3, h3_4, h3_5, h3_7, hops]
        refine ⟨_, Cell.at 2 rfl rfl, ?_⟩
        try with_reducible refine stI ?_
        try simp (maxSteps:=1000000)(dsimp:=false)(disch:=omega) only [go_sem, Φa, hP, h3_32, h3_3, h3_4, h3_5, h3_7, hops]
        refine ⟨_, Cell.at 2 rfl rfl, ?_⟩
        try with_reducible refine stI ?_
        try simp (maxSteps:=1000000)(dsimp:=false)(disch:=omega) only [go_sem, Φa, hP, h3_32, h3_3, h3_4, h3_5, h3_7, hops]
        refine ⟨_, Cell.at 2 rfl rfl, ?_⟩
        try with_reducible refine stI ?_
        try simp (maxSteps:=1000000)(dsimp:=false)(disch:=omega) only [go_sem, Φa, hP, h3_32, h3_3, h3_4, h3_5, h3_7, hops]
        refine ⟨_, Cell.at 2 rfl rfl, ?_⟩
        try with_reducible refine stI ?_
        try simp (maxSteps:=1000000)(dsimp:=false)(disch:=omega) only [go_sem, Φa, hP, h3_32, h3_3, h3_4, h3_5, h3_7, hops]
        refine ⟨_, Cell.at 2 rfl rfl, ?_⟩
        try with_reducible refine stI ?_
        try simp (maxSteps:=1000000)(dsimp:=false)(disch:=omega) only [go_sem, Φa, hP, h3_32, h3_3, h3_4, h3_5, h3_7, hops]
        refine ⟨_, Cell.at 2 rfl rfl, ?_⟩
        try with_reducible refine stI ?_
        try simp (maxSteps:=1000000)(dsimp:=false)(disch:=omega) only [go_sem, Φa, hP, h3_32, h3_3, h3_4, h3_5, h3_7, hops]
        refine ⟨_, Cell.at 2 rfl rfl, ?_⟩
        try with_reducible refine stI ?_
        try simp (maxSteps:=1000000)(dsimp:=false)(disch:=omega) only [go_sem, Φa, hP, h3_32, h3_3, h3_4, h3_5, h3_7, hops]
        refine ⟨_, Cell.at 2 rfl rfl, ?_⟩
        try with_reducible refine stI ?_
        try simp (maxSteps:=1000000)(dsimp:=false)(disch:=omega) only [go_sem, Φa, hP, h3_32, h3_3, h3_4, h3_5, h3_7, hops]
        refine ⟨_, Cell.at 2 rfl rfl, ?_⟩
        try with_reducible refine stI ?_
        try simp (maxSteps:=1000000)(dsimp:=false)(disch:=omega) only [go_sem, Φa, hP, h3_32, h3_3, h3_4, h3_5, h3_7, hops]
        refine ⟨_, Cell.at 2 rfl rfl, ?_⟩
        try with_reducible refine stI ?_
        try simp (maxSteps:=1000000)(dsimp:=false)(disch:=omega) only [go_sem, Φa, hP, h3_32, h3_3, h3_4, h3_5, h3_7, hops]
        refine ⟨_, Cell.at 1 rfl rfl, ?_⟩
        try with_reducible refine stI ?_
        try simp (maxSteps:=1000000)(dsimp:=false)(disch:=omega) only [go_sem, Φa, hP, h3_32, h3_3, h3_4, h3_5, h3_7, hops]
        refine ⟨_, Cell.at 1 rfl rfl, ?_⟩
        try with_reducible refine stI ?_
        try simp (maxSteps:=1000000)(dsimp:=false)(disch:=omega) only [go_sem, Φa, hP, h3_32, h3_3, h3_4, h3_5, h3_7, hops]
        refine ⟨_, Cell.at 1 rfl rfl, ?_⟩
        try with_reducible refine stI ?_
        try simp (maxSteps:=1000000)(dsimp:=false)(disch:=omega) only [go_sem, Φa, hP, h3_32, h3_3, h3_4, h3_5, h3_7, hops]
        refine SCall.mono (Step_spec (g := g) (f := f) (d := d) hP hg hF hd (SlI.any hs) (SlI.any hp) (SlI.any hm) (SlI.any hf) (by omega) (by omega) (by omega) (by omega)) ?_
        rintro v_ L_ ⟨sv0, pv0, mv0, n1, n2, n3, rfl, rfl, hr⟩
        obtain ⟨A0st, c0st, rfl, hc0st⟩ := rowShape hr.st
        obtain ⟨A0pg, c0pg, rfl, hc0pg⟩ := rowShape hr.pg
        obtain ⟨A0mm, c0mm, rfl, hc0mm⟩ := rowShape hr.mm
        unfold GM.cells
        try with_reducible refine stI ?_
        try simp (maxSteps:=1000000)(dsimp:=false)(disch:=omega) only [go_sem, Φa, hP, h3_32, h3_3, h3_4, h3_5, h3_7, hops]
        intro b8
        try with_reducible refine stI ?_
        try simp (maxSteps:=1000000)(dsimp:=false)(disch:=omega) only [go_sem, Φa, hP, h3_32, h3_3, h3_4, h3_5, h3_7, hops]
        refine ⟨0, _, _, _, rfl, by decide, .inr (by decide), ?_⟩
        try with_reducible refine stI ?_
        try simp (maxSteps:=1000000)(dsimp:=false)(disch:=omega) only [go_sem, Φa, hP, h3_32, h3_3, h3_4, h3_5, h3_7, hops]
        refine hK14 _ _ ?_
        try clear hK14 K14
        refine SX.live [3, 9, 10, 11, 12, 13] (fun T4 hT4 => ?_)
        simp only [Φb, Φc, go_sem, Φa, hP, h3_32, h3_3, h3_4, h3_5, h3_7] at hT4
        obtain ⟨h4_3, h4_9, h4_10, h4_11, h4_12, h4_13⟩ := hT4
        clear h3_32 h3_3 h3_4 h3_5 h3_7 T3
        refine SX.seq_k fun K15 hK15 => ?_
        refine SX.seq_k fun K16 hK16 => ?_
        refine SX.region_xd [some 47, some 48, some 49, some 50, some 51, some 52, some 53, some 54, some 55, some 56] rfl (fun ops hops => ?_)
        unfold Dsts at hops
        refine RX.live [3, 9, 10, 11, 12, 13] (fun T5 hT5 => ?_)
        simp only [Φb, Φc, go_sem, Φa, hP, h4_3, h4_9, h4_10, h4_11, h4_12, h4_13] at hT5
        obtain ⟨h5_3, h5_9, h5_10, h5_11, h5_12, h5_13⟩ := hT5
        clear h4_3 h4_9 h4_10 h4_11 h4_12 h4_13 T4
        refine RX.join 10 (fun (ss : Unit) T L' => T 56 = .bool (!(decide ((nextG g).2 = 1) && decide ((stepG g f d).2.2 = 0) && decide ((stepG g f d).2.1 = 1))) ∧ T 3 = T5 3 ∧ T 9 = T5 9 ∧ T 10 = T5 10 ∧ T 11 = T5 11 ∧ T 12 = T5 12 ∧ T 13 = T5 13 ∧ L' = some (b8, .cells ((stepG g f d).1.cells (.slice A0st (stepG g f d).1.st.length c0st) (.slice A0pg (stepG g f d).1.pg.length c0pg) (.slice A0mm (stepG g f d).1.mm.length c0mm)).toArray 29 (0, 0)) :: n1 :: n2 :: n3 :: some (b7, .cells (nextG g).1.cells.toArray 45 (0, 0)) :: some (b2, .cells d.cells.toArray 50 (0, 0)) :: some (b1, .cells (f.cells (.slice Af f.bs.length cf)).toArray 40 (0, 0)) :: some (b0, .cells (g.cells (.slice As g.st.length cs) (.slice Ap g.pg.length cp) (.slice Am g.mm.length cm)).toArray 29 (0, 0)) :: L ∧ (True)) (fun K17 hK17 => ?_) ?_
        · simp only [h5_3, h5_9, h5_10, h5_11, h5_12, h5_13] at hK17
          simp (maxSteps:=1000000)(dsimp:=false)(disch:=omega) only [go_sem, Φa, hP, h5_3, h5_9, h5_10, h5_11, h5_12, h5_13, hops]
          repeat' (first | refine iteB (fun hg => ?_) (fun hg => ?_) | refine iteI (fun hg => ?_) (fun hg => ?_) | ((first | refine And.intro (by omega) ?_ | refine ⟨_, Cell.at 0 rfl rfl, ?_⟩ | refine ⟨_, Cell.at 1 rfl rfl, ?_⟩ | refine ⟨_, Cell.at 2 rfl rfl, ?_⟩ | refine ⟨_, Cell.at 3 rfl rfl, ?_⟩ | refine ⟨_, Cell.at 4 rfl rfl, ?_⟩ | refine ⟨_, Cell.at 5 rfl rfl, ?_⟩ | refine ⟨_, Cell.at 6 rfl rfl, ?_⟩ | refine ⟨_, Cell.at 7 rfl rfl, ?_⟩ | fail); try (with_reducible refine stI ?_); try simp (maxSteps:=1000000)(dsimp:=false)(disch:=omega) only [go_sem, Φa, hP, h5_3, h5_9, h5_10, h5_11, h5_12, h5_13, hops]) | fail)
          all_goals
            refine hK17 () _ (some (b8, .cells ((stepG g f d).1.cells (.slice A0st (stepG g f d).1.st.length c0st) (.slice A0pg (stepG g f d).1.pg.length c0pg) (.slice A0mm (stepG g f d).1.mm.length c0mm)).toArray 29 (0, 0)) :: n1 :: n2 :: n3 :: some (b7, .cells (nextG g).1.cells.toArray 45 (0, 0)) :: some (b2, .cells d.cells.toArray 50 (0, 0)) :: some (b1, .cells (f.cells (.slice Af f.bs.length cf)).toArray 40 (0, 0)) :: some (b0, .cells (g.cells (.slice As g.st.length cs) (.slice Ap g.pg.length cp) (.slice Am g.mm.length cm)).toArray 29 (0, 0)) :: L) _ (by first | exact Less.refl _ | exact Less.drop _ _ | exact Less.drops (Less.drop _ _) | exact Less.drops (Less.drops (Less.drop _ _)) | exact Less.drops (Less.drops (Less.drops (Less.drop _ _))) | exact Less.drops (Less.drops (Less.drops (Less.drops (Less.drop _ _)))) | (simp (disch := omega) only [e1, e2]; exact Less.refl _)) ?_
            try dsimp only
            refine ⟨?_, ?_, ?_, ?_, ?_, ?_, ?_, ?_, ?_⟩
            · simp (maxSteps:=1000000)(dsimp:=false)(disch:=omega) only [go_sem, Φa, hP, h5_3, h5_9, h5_10, h5_11, h5_12, h5_13]
              first | done | (refine congrArg Value.bool ?_; simp_all; done)
            · simp (maxSteps:=1000000)(dsimp:=false)(disch:=omega) only [go_sem, Φa, hP, h5_3, h5_9, h5_10, h5_11, h5_12, h5_13]
            · simp (maxSteps:=1000000)(dsimp:=false)(disch:=omega) only [go_sem, Φa, hP, h5_3, h5_9, h5_10, h5_11, h5_12, h5_13]
            · simp (maxSteps:=1000000)(dsimp:=false)(disch:=omega) only [go_sem, Φa, hP, h5_3, h5_9, h5_10, h5_11, h5_12, h5_13]
            · simp (maxSteps:=1000000)(dsimp:=false)(disch:=omega) only [go_sem, Φa, hP, h5_3, h5_9, h5_10, h5_11, h5_12, h5_13]
            · simp (maxSteps:=1000000)(dsimp:=false)(disch:=omega) only [go_sem, Φa, hP, h5_3, h5_9, h5_10, h5_11, h5_12, h5_13]
            · simp (maxSteps:=1000000)(dsimp:=false)(disch:=omega) only [go_sem, Φa, hP, h5_3, h5_9, h5_10, h5_11, h5_12, h5_13]
            · rfl
            · trivial
        · intro ss T6 L6 hI
          simp only [h5_3, h5_9, h5_10, h5_11, h5_12, h5_13] at hI 
          obtain ⟨h6_56, h6_3, h6_9, h6_10, h6_11, h6_12, h6_13, hL6, hinv⟩ := hI
          replace hL6 := hL6.symm
          subst hL6
          clear h5_3 h5_9 h5_10 h5_11 h5_12 h5_13 T5
          refine RX.done ?_
          simp (maxSteps:=1000000)(dsimp:=false)(disch:=omega) only [go_sem, Φa, hP, h6_56, h6_3, h6_9, h6_10, h6_11, h6_12, h6_13, hops]
          refine hK16 _ _ ?_
          try clear hK16 K16
          refine SX.cond_k fun X18 Y18 hX18 hY18 => ?_
          simp (maxSteps:=1000000)(dsimp:=false)(disch:=omega) only [go_sem, Φa, hP, h6_56, h6_3, h6_9, h6_10, h6_11, h6_12, h6_13, condVC]
          refine ⟨fun hc56 => hX18 ?_, fun hc56 => hY18 ?_⟩
          · clear hX18 hY18 X18 Y18
            refine SX.seq_k fun K19 hK19 => ?_
            refine SX.region_xd [some 57, some 58, some 59, some 60, some 61, some 62, some 63, some 64, some 65, some 66, some 67, some 68, some 69, some 70, some 71, some 72, some 73, some 74, some 75, some 6] rfl (fun ops hops => ?_)
            unfold Dsts at hops
            refine RX.live [10, 12, 13] (fun T7 hT7 => ?_)
            simp only [Φb, Φc, go_sem, Φa, hP, h6_56, h6_3, h6_9, h6_10, h6_11, h6_12, h6_13] at hT7
            obtain ⟨h7_10, h7_12, h7_13⟩ := hT7
            clear h6_56 h6_3 h6_9 h6_10 h6_11 h6_12 h6_13 T6
            have hno : (stepG g f d).2.2 = 0 ∨ (stepG g f d).2.2 = 1 := by
              by_cases h : (stepG g f d).2.2 = 0
              · exact .inl h
              · exact .inr (by rw [stepG_err hc0 h])
            have hout : (nextG g).2 = 1 ∨ (stepG g f d).2.2 ≠ 0 ∨ (stepG g f d).2.1 = (nextG g).2 := by
              by_cases h1 : (nextG g).2 = 1
              · exact .inl h1
              · by_cases h : (stepG g f d).2.2 = 0
                · exact .inr (.inr (step_next hc0 h h1))
                · exact .inr (.inl h)
            refine RX.join 19 (fun (ss : Unit) T L' => T 75 = .bool (true) ∧ L' = some (b8, .cells ((stepG g f d).1.cells (.slice A0st (stepG g f d).1.st.length c0st) (.slice A0pg (stepG g f d).1.pg.length c0pg) (.slice A0mm (stepG g f d).1.mm.length c0mm)).toArray 29 (0, 0)) :: n1 :: n2 :: n3 :: some (b7, .cells (nextG g).1.cells.toArray 45 (0, 0)) :: some (b2, .cells d.cells.toArray 50 (0, 0)) :: some (b1, .cells (f.cells (.slice Af f.bs.length cf)).toArray 40 (0, 0)) :: some (b0, .cells (g.cells (.slice As g.st.length cs) (.slice Ap g.pg.length cp) (.slice Am g.mm.length cm)).toArray 29 (0, 0)) :: L ∧ (True)) (fun K20 hK20 => ?_) ?_
            · simp (maxSteps:=1000000)(dsimp:=false)(disch:=omega) only [go_sem, Φa, hP, h7_10, h7_12, h7_13, hops]
              repeat' (first | refine iteB (fun hg => ?_) (fun hg => ?_) | refine iteI (fun hg => ?_) (fun hg => ?_) | ((first | refine And.intro (by omega) ?_ | refine ⟨_, Cell.at 0 rfl rfl, ?_⟩ | refine ⟨_, Cell.at 1 rfl rfl, ?_⟩ | refine ⟨_, Cell.at 2 rfl rfl, ?_⟩ | refine ⟨_, Cell.at 3 rfl rfl, ?_⟩ | refine ⟨_, Cell.at 4 rfl rfl, ?_⟩ | refine ⟨_, Cell.at 5 rfl rfl, ?_⟩ | refine ⟨_, Cell.at 6 rfl rfl, ?_⟩ | refine ⟨_, Cell.at 7 rfl rfl, ?_⟩ | fail); try (with_reducible refine stI ?_); try simp (maxSteps:=1000000)(dsimp:=false)(disch:=omega) only [go_sem, Φa, hP, h7_10, h7_12, h7_13, hops]) | fail)
              all_goals
                refine hK20 () _ (some (b8, .cells ((stepG g f d).1.cells (.slice A0st (stepG g f d).1.st.length c0st) (.slice A0pg (stepG g f d).1.pg.length c0pg) (.slice A0mm (stepG g f d).1.mm.length c0mm)).toArray 29 (0, 0)) :: n1 :: n2 :: n3 :: some (b7, .cells (nextG g).1.cells.toArray 45 (0, 0)) :: some (b2, .cells d.cells.toArray 50 (0, 0)) :: some (b1, .cells (f.cells (.slice Af f.bs.length cf)).toArray 40 (0, 0)) :: some (b0, .cells (g.cells (.slice As g.st.length cs) (.slice Ap g.pg.length cp) (.slice Am g.mm.length cm)).toArray 29 (0, 0)) :: L) _ (by first | exact Less.refl _ | exact Less.drop _ _ | exact Less.drops (Less.drop _ _) | exact Less.drops (Less.drops (Less.drop _ _)) | exact Less.drops (Less.drops (Less.drops (Less.drop _ _))) | exact Less.drops (Less.drops (Less.drops (Less.drops (Less.drop _ _)))) | (simp (disch := omega) only [e1, e2]; exact Less.refl _)) ?_
                try dsimp only
                refine ⟨?_, ?_, ?_⟩
                · simp (maxSteps:=1000000)(dsimp:=false)(disch:=omega) only [go_sem, Φa, hP, h7_10, h7_12, h7_13]
                  first | done | (refine congrArg Value.bool ?_; simp_all; done) | (rcases hno with h | h <;> rcases hout with h' | h' | h' <;> simp_all; done)
                · rfl
                · trivial
            · intro ss T8 L8 hI
              obtain ⟨h8_75, hL8, hinv⟩ := hI
              replace hL8 := hL8.symm
              subst hL8
              clear h7_10 h7_12 h7_13 T7
              refine RX.done ?_
              simp (maxSteps:=1000000)(dsimp:=false)(disch:=omega) only [go_sem, Φa, hP, h8_75, hops]
              refine hK19 _ _ ?_
              try clear hK19 K19
              refine SX.ret ?_
              simp only [andThen_normal, andThen_ret, andThen_exit, inBlk_normal, inBlk_ret, inBlk_exit, Φd, if_true, if_false, ↓reduceIte, retQ_ret]
              try simp only [res0, res1, res2, res3, stK_e, go_sem, Φa, hP, h8_75]
              exact ⟨_, _, Less.tail [_, _, _, _, _, _, _, _] _, rfl, rfl, rfl⟩
          · clear hX18 hY18 X18 Y18
            refine SX.skip ?_
            try simp only [andThen_normal, andThen_ret, andThen_exit, inBlk_normal, inBlk_ret, inBlk_exit, Φd, if_true, if_false, ↓reduceIte]
            refine hK15 _ _ ?_
            try clear hK15 K15
            refine SX.seq_k fun K21 hK21 => ?_
            refine SX.seq_k fun K22 hK22 => ?_
            have hA : ((nextG g).2 = 1 ∧ (stepG g f d).2.2 = 0) ∧ (stepG g f d).2.1 = 1 := by simpa using hc56
            obtain ⟨⟨hA1, hA2⟩, hA3⟩ := hA
            have hT := touch_step (f := f) (d := d) hfine hA1 hA2 hA3
            have hfn := hfine.step hF hd hA2
            have hoo : OkO (nextG g).1 := nextG_okO
            have w1 := hfn.st
            have w2 := hfn.pg
            have w3 := hfn.mm
            have q1 := hfine.st
            have q2 := hfine.pg
            have q3 := hfine.mm
            refine SX.region_d [some 14] rfl (fun ops hops => ?_)
            unfold Dsts at hops
            simp (maxSteps:=1000000)(dsimp:=false)(disch:=omega) only [go_sem, Φa, hP, h6_56, h6_3, h6_9, h6_10, h6_11, h6_12, h6_13, hops]
            refine hK22 _ _ ?_
            try clear hK22 K22
            refine SX.block ?_
            refine SX.live [3, 9, 11, 14] (fun T9 hT9 => ?_)
            simp only [Φb, Φc, go_sem, Φa, hP, h6_56, h6_3, h6_9, h6_10, h6_11, h6_12, h6_13] at hT9
            obtain ⟨h9_3, h9_9, h9_11, h9_14⟩ := hT9
            clear h6_56 h6_3 h6_9 h6_10 h6_11 h6_12 h6_13 T6
            refine SX.loop_k (fun (ss : (Nat)) T L' => (fun (k : Nat) => T 14 = .int .i64 (k : Int) ∧ T 3 = T9 3 ∧ T 9 = T9 9 ∧ T 11 = T9 11 ∧ L' = some (b8, .cells ((stepG g f d).1.cells (.slice A0st (stepG g f d).1.st.length c0st) (.slice A0pg (stepG g f d).1.pg.length c0pg) (.slice A0mm (stepG g f d).1.mm.length c0mm)).toArray 29 (0, 0)) :: n1 :: n2 :: n3 :: some (b7, .cells (nextG g).1.cells.toArray 45 (0, 0)) :: some (b2, .cells d.cells.toArray 50 (0, 0)) :: some (b1, .cells (f.cells (.slice Af f.bs.length cf)).toArray 40 (0, 0)) :: some (b0, .cells (g.cells (.slice As g.st.length cs) (.slice Ap g.pg.length cp) (.slice Am g.mm.length cm)).toArray 29 (0, 0)) :: L ∧ (k ≤ 16)) (ss)) (fun (ss : (Nat)) => (fun (k : Nat) => 16 - k) (ss)) 0 ?_ ?_
            · try dsimp only
              refine ⟨?_, ?_, ?_, ?_, ?_, ?_⟩
              · first | exact h9_14 | (rw [h9_14]; rfl) | (rw [h9_14]; simp; done)
              · rfl
              · rfl
              · rfl
              · rfl
              · exact Nat.zero_le _
            · intro k T10 L10 hI K23 hK23
              try dsimp only at hI hK23
              simp only [h9_3, h9_9, h9_11] at hI hK23
              obtain ⟨h10_14, h10_3, h10_9, h10_11, hL10, hk⟩ := hI
              replace hL10 := hL10.symm
              subst hL10
              clear h9_3 h9_9 h9_11 h9_14 T9
              refine SX.seq_k fun K24 hK24 => ?_
              refine SX.seq_k fun K25 hK25 => ?_
              refine SX.region_d [some 76, some 77] rfl (fun ops hops => ?_)
              unfold Dsts at hops
              simp (maxSteps:=1000000)(dsimp:=false)(disch:=omega) only [go_sem, Φa, hP, h10_14, h10_3, h10_9, h10_11, hops]
              repeat' ((first | refine And.intro (by omega) ?_ | fail); try (with_reducible refine stI ?_); try simp (maxSteps:=1000000)(dsimp:=false)(disch:=omega) only [go_sem, Φa, hP, h10_14, h10_3, h10_9, h10_11, hops])
              refine hK25 _ _ ?_
              try clear hK25 K25
              refine SX.cond_k fun X26 Y26 hX26 hY26 => ?_
              simp (maxSteps:=1000000)(dsimp:=false)(disch:=omega) only [go_sem, Φa, hP, h10_14, h10_3, h10_9, h10_11, condVC]
              refine ⟨fun hc77 => hX26 ?_, fun hc77 => hY26 ?_⟩
              · clear hX26 hY26 X26 Y26
                refine SX.skip ?_
                try simp only [andThen_normal, andThen_ret, andThen_exit, inBlk_normal, inBlk_ret, inBlk_exit, Φd, if_true, if_false, ↓reduceIte]
                refine hK24 _ _ ?_
                try clear hK24 K24
                refine SX.seq_k fun K27 hK27 => ?_
                refine SX.block ?_
                refine SX.seq_k fun K28 hK28 => ?_
                have hk16 : k < 16 := by omega
                have hV := hT.V k hk16
                have hkt : ((k : Int)).toNat = k := by omega
                refine SX.region_d [some 80, some 81, some 82, some 15] rfl (fun ops hops => ?_)
                unfold Dsts at hops
                simp (maxSteps:=1000000)(dsimp:=false)(disch:=omega) only [go_sem, Φa, hP, h10_14, h10_3, h10_9, h10_11, hops]
                refine ⟨_, Cell.at 4 rfl rfl, ?_⟩
                try with_reducible refine stI ?_
                try simp (maxSteps:=1000000)(dsimp:=false)(disch:=omega) only [go_sem, Φa, hP, h10_14, h10_3, h10_9, h10_11, hops]
                refine ⟨_, Cell.at 4 rfl rfl, ?_⟩
                try with_reducible refine stI ?_
                try simp (maxSteps:=1000000)(dsimp:=false)(disch:=omega) only [go_sem, Φa, hP, h10_14, h10_3, h10_9, h10_11, hops]
                refine ⟨_, Cell.at 4 rfl rfl, ?_⟩
                try with_reducible refine stI ?_
                try simp (maxSteps:=1000000)(dsimp:=false)(disch:=omega) only [go_sem, Φa, hP, h10_14, h10_3, h10_9, h10_11, hops]
                refine ⟨_, Cell.at 4 rfl rfl, ?_⟩
                try with_reducible refine stI ?_
                try simp (maxSteps:=1000000)(dsimp:=false)(disch:=omega) only [go_sem, Φa, hP, h10_14, h10_3, h10_9, h10_11, hops]
                refine ⟨_, Cell.at 4 rfl rfl, ?_⟩
                try with_reducible refine stI ?_
                try simp (maxSteps:=1000000)(dsimp:=false)(disch:=omega) only [go_sem, Φa, hP, h10_14, h10_3, h10_9, h10_11, hops]
                refine ⟨_, Cell.at 4 rfl rfl, ?_⟩
                try with_reducible refine stI ?_
                try simp (maxSteps:=1000000)(dsimp:=false)(disch:=omega) only [go_sem, Φa, hP, h10_14, h10_3, h10_9, h10_11, hops]
                first | (refine SCall.mono (touched_spec (o := (nextG g).1) (k := k) hP hoo (by omega)) ?_; rintro v_ L_ ⟨hv_, hL_⟩; rw [hv_, hL_]; clear hv_ hL_ v_ L_) | refine ⟨_, touched_spec (o := (nextG g).1) (k := k) hP hoo (by omega), ?_⟩ | refine ⟨_, fun L0 hl0 => touched_spec (o := (nextG g).1) (k := k) hP hoo (by omega), ?_⟩
                try with_reducible refine stI ?_
                try simp (maxSteps:=1000000)(dsimp:=false)(disch:=omega) only [go_sem, Φa, hP, h10_14, h10_3, h10_9, h10_11, hops]
                refine hK28 _ _ ?_
                try clear hK28 K28
                refine SX.seq_k fun K29 hK29 => ?_
                refine SX.quiet_xd (hP ▸ T.mixed) (by kernel_rfl) [some 83, some 84, some 85, some 86, some 87, some 88, some 89, some 90, some 91, some 92, some 93, some 94, some 95] rfl (fun ops hops => ?_)
                unfold Dsts at hops
                refine QX.live [3, 9, 11, 14, 15] (fun T11 hT11 => ?_)
                simp only [Φb, Φc, go_sem, Φa, hP, h10_14, h10_3, h10_9, h10_11] at hT11
                obtain ⟨h11_3, h11_9, h11_11, h11_14, h11_15⟩ := hT11
                clear h10_14 h10_3 h10_9 h10_11 T10
                refine QX.join 13 (fun (ss : Unit) T L' => T 95 = .bool (false) ∧ T 3 = T11 3 ∧ T 9 = T11 9 ∧ T 11 = T11 11 ∧ T 14 = T11 14 ∧ L' = some (b8, .cells ((stepG g f d).1.cells (.slice A0st (stepG g f d).1.st.length c0st) (.slice A0pg (stepG g f d).1.pg.length c0pg) (.slice A0mm (stepG g f d).1.mm.length c0mm)).toArray 29 (0, 0)) :: n1 :: n2 :: n3 :: some (b7, .cells (nextG g).1.cells.toArray 45 (0, 0)) :: some (b2, .cells d.cells.toArray 50 (0, 0)) :: some (b1, .cells (f.cells (.slice Af f.bs.length cf)).toArray 40 (0, 0)) :: some (b0, .cells (g.cells (.slice As g.st.length cs) (.slice Ap g.pg.length cp) (.slice Am g.mm.length cm)).toArray 29 (0, 0)) :: L ∧ (True)) (fun K30 hK30 => ?_) ?_
                · simp only [h11_3, h11_9, h11_11, h11_14] at hK30
                  simp (maxSteps:=1000000)(dsimp:=false)(disch:=omega) only [go_sem, Φa, hP, h11_3, h11_9, h11_11, h11_14, h11_15, hops]
                  repeat' (first | refine iteB (fun hg => ?_) (fun hg => ?_) | refine iteI (fun hg => ?_) (fun hg => ?_) | ((first | refine ⟨_, Cell.at 0 rfl (gV9 hk16), ?_⟩ | refine ⟨_, Cell.at 7 rfl (gV9 hk16), ?_⟩ | refine And.intro (by omega) ?_ | refine ⟨_, Cell.at 0 rfl rfl, ?_⟩ | refine ⟨_, Cell.at 1 rfl rfl, ?_⟩ | refine ⟨_, Cell.at 2 rfl rfl, ?_⟩ | refine ⟨_, Cell.at 3 rfl rfl, ?_⟩ | refine ⟨_, Cell.at 4 rfl rfl, ?_⟩ | refine ⟨_, Cell.at 5 rfl rfl, ?_⟩ | refine ⟨_, Cell.at 6 rfl rfl, ?_⟩ | refine ⟨_, Cell.at 7 rfl rfl, ?_⟩ | fail); try (with_reducible refine stI ?_); try simp (maxSteps:=1000000)(dsimp:=false)(disch:=omega) only [go_sem, Φa, hP, h11_3, h11_9, h11_11, h11_14, h11_15, hops]) | fail)
                  all_goals
                    refine hK30 () _ (some (b8, .cells ((stepG g f d).1.cells (.slice A0st (stepG g f d).1.st.length c0st) (.slice A0pg (stepG g f d).1.pg.length c0pg) (.slice A0mm (stepG g f d).1.mm.length c0mm)).toArray 29 (0, 0)) :: n1 :: n2 :: n3 :: some (b7, .cells (nextG g).1.cells.toArray 45 (0, 0)) :: some (b2, .cells d.cells.toArray 50 (0, 0)) :: some (b1, .cells (f.cells (.slice Af f.bs.length cf)).toArray 40 (0, 0)) :: some (b0, .cells (g.cells (.slice As g.st.length cs) (.slice Ap g.pg.length cp) (.slice Am g.mm.length cm)).toArray 29 (0, 0)) :: L) _ (by first | rfl | (simp only [e1, e2])) ?_
                    try dsimp only
                    refine ⟨?_, ?_, ?_, ?_, ?_, ?_, ?_⟩
                    · simp (maxSteps:=1000000)(dsimp:=false)(disch:=omega) only [go_sem, Φa, hP, h11_3, h11_9, h11_11, h11_14, h11_15]
                      first | done | (refine congrArg Value.bool ?_; simp_all; done)
                    · simp (maxSteps:=1000000)(dsimp:=false)(disch:=omega) only [go_sem, Φa, hP, h11_3, h11_9, h11_11, h11_14, h11_15]
                    · simp (maxSteps:=1000000)(dsimp:=false)(disch:=omega) only [go_sem, Φa, hP, h11_3, h11_9, h11_11, h11_14, h11_15]
                    · simp (maxSteps:=1000000)(dsimp:=false)(disch:=omega) only [go_sem, Φa, hP, h11_3, h11_9, h11_11, h11_14, h11_15]
                    · simp (maxSteps:=1000000)(dsimp:=false)(disch:=omega) only [go_sem, Φa, hP, h11_3, h11_9, h11_11, h11_14, h11_15]
                    · rfl
                    · trivial
                · intro ss T12 L12 hE12 hI
                  simp only [h11_3, h11_9, h11_11, h11_14] at hI 
                  obtain ⟨h12_95, h12_3, h12_9, h12_11, h12_14, hL12, hinv⟩ := hI
                  replace hL12 := hL12.symm
                  subst hL12
                  clear h11_3 h11_9 h11_11 h11_14 h11_15 T11
                  clear hE12
                  refine QX.done ?_
                  simp (maxSteps:=1000000)(dsimp:=false)(disch:=omega) only [go_sem, Φa, hP, h12_95, h12_3, h12_9, h12_11, h12_14, hops]
                  refine hK29 _ _ ?_
                  try clear hK29 K29
                  refine SX.cond_k fun X31 Y31 hX31 hY31 => ?_
                  simp (maxSteps:=1000000)(dsimp:=false)(disch:=omega) only [go_sem, Φa, hP, h12_95, h12_3, h12_9, h12_11, h12_14, condVC]
                  refine hY31 ?_
                  clear hX31 hY31 X31 Y31
                  refine SX.skip ?_
                  try simp only [andThen_normal, andThen_ret, andThen_exit, inBlk_normal, inBlk_ret, inBlk_exit, Φd, if_true, if_false, ↓reduceIte]
                  refine hK27 _ _ ?_
                  try clear hK27 K27
                  refine SX.region_d [some 78, some 79, some 14] rfl (fun ops hops => ?_)
                  unfold Dsts at hops
                  simp (maxSteps:=1000000)(dsimp:=false)(disch:=omega) only [go_sem, Φa, hP, h12_95, h12_3, h12_9, h12_11, h12_14, hops]
                  repeat' ((first | refine And.intro (by omega) ?_ | fail); try (with_reducible refine stI ?_); try simp (maxSteps:=1000000)(dsimp:=false)(disch:=omega) only [go_sem, Φa, hP, h12_95, h12_3, h12_9, h12_11, h12_14, hops])
                  refine hK23 (k + 1) _ (some (b8, .cells ((stepG g f d).1.cells (.slice A0st (stepG g f d).1.st.length c0st) (.slice A0pg (stepG g f d).1.pg.length c0pg) (.slice A0mm (stepG g f d).1.mm.length c0mm)).toArray 29 (0, 0)) :: n1 :: n2 :: n3 :: some (b7, .cells (nextG g).1.cells.toArray 45 (0, 0)) :: some (b2, .cells d.cells.toArray 50 (0, 0)) :: some (b1, .cells (f.cells (.slice Af f.bs.length cf)).toArray 40 (0, 0)) :: some (b0, .cells (g.cells (.slice As g.st.length cs) (.slice Ap g.pg.length cp) (.slice Am g.mm.length cm)).toArray 29 (0, 0)) :: L) _ (by first | exact Less.refl _ | exact Less.drop _ _ | exact Less.drops (Less.drop _ _) | exact Less.drops (Less.drops (Less.drop _ _)) | exact Less.drops (Less.drops (Less.drops (Less.drop _ _))) | exact Less.drops (Less.drops (Less.drops (Less.drops (Less.drop _ _)))) | (simp (disch := omega) only [e1, e2]; exact Less.refl _)) ?_ ?_
                  · try dsimp only
                    refine ⟨?_, ?_, ?_, ?_, ?_, ?_⟩
                    · simp (maxSteps:=1000000)(dsimp:=false)(disch:=omega) only [go_sem, Φa, hP, h12_95, h12_3, h12_9, h12_11, h12_14]
                      first | done | rfl | skip
                    · simp (maxSteps:=1000000)(dsimp:=false)(disch:=omega) only [go_sem, Φa, hP, h12_95, h12_3, h12_9, h12_11, h12_14]
                    · simp (maxSteps:=1000000)(dsimp:=false)(disch:=omega) only [go_sem, Φa, hP, h12_95, h12_3, h12_9, h12_11, h12_14]
                    · simp (maxSteps:=1000000)(dsimp:=false)(disch:=omega) only [go_sem, Φa, hP, h12_95, h12_3, h12_9, h12_11, h12_14]
                    · rfl
                    · omega
                  · (try dsimp only); omega
              · clear hX26 hY26 X26 Y26
                refine SX.exit ?_
                try simp only [andThen_normal, andThen_ret, andThen_exit, inBlk_normal, inBlk_ret, inBlk_exit, Φd, if_true, if_false, ↓reduceIte]
                refine hK21 _ _ ?_
                try clear hK21 K21
                refine SX.seq_k fun K32 hK32 => ?_
                refine SX.seq_k fun K33 hK33 => ?_
                refine SX.region_xd [some 96, some 97, some 98, some 99, some 100, some 101, some 102, some 103, some 104, some 105, some 106, some 107, some 108, some 109, some 110, some 111] rfl (fun ops hops => ?_)
                unfold Dsts at hops
                refine RX.live [3, 9, 11] (fun T13 hT13 => ?_)
                simp only [Φb, Φc, go_sem, Φa, hP, h10_14, h10_3, h10_9, h10_11] at hT13
                obtain ⟨h13_3, h13_9, h13_11⟩ := hT13
                clear h10_14 h10_3 h10_9 h10_11 T10
                refine RX.join 16 (fun (ss : Unit) T L' => T 111 = .bool (false) ∧ T 3 = T13 3 ∧ T 9 = T13 9 ∧ T 11 = T13 11 ∧ L' = some (b8, .cells ((stepG g f d).1.cells (.slice A0st (stepG g f d).1.st.length c0st) (.slice A0pg (stepG g f d).1.pg.length c0pg) (.slice A0mm (stepG g f d).1.mm.length c0mm)).toArray 29 (0, 0)) :: n1 :: n2 :: n3 :: some (b7, .cells (nextG g).1.cells.toArray 45 (0, 0)) :: some (b2, .cells d.cells.toArray 50 (0, 0)) :: some (b1, .cells (f.cells (.slice Af f.bs.length cf)).toArray 40 (0, 0)) :: some (b0, .cells (g.cells (.slice As g.st.length cs) (.slice Ap g.pg.length cp) (.slice Am g.mm.length cm)).toArray 29 (0, 0)) :: L ∧ (True)) (fun K34 hK34 => ?_) ?_
                · simp only [h13_3, h13_9, h13_11] at hK34
                  simp (maxSteps:=1000000)(dsimp:=false)(disch:=omega) only [go_sem, Φa, hP, h13_3, h13_9, h13_11, hops]
                  repeat' (first | refine iteB (fun hg => ?_) (fun hg => ?_) | refine iteI (fun hg => ?_) (fun hg => ?_) | ((first | refine ⟨_, Cell.at 0 rfl (show (GM.cells _ _ _ _)[22]? = _ from rfl), ?_⟩ | refine ⟨_, Cell.at 7 rfl (show (GM.cells _ _ _ _)[22]? = _ from rfl), ?_⟩ | refine ⟨_, Cell.at 0 rfl (show (GM.cells _ _ _ _)[21]? = _ from rfl), ?_⟩ | refine ⟨_, Cell.at 7 rfl (show (GM.cells _ _ _ _)[21]? = _ from rfl), ?_⟩ | refine And.intro (by omega) ?_ | refine ⟨_, Cell.at 0 rfl rfl, ?_⟩ | refine ⟨_, Cell.at 1 rfl rfl, ?_⟩ | refine ⟨_, Cell.at 2 rfl rfl, ?_⟩ | refine ⟨_, Cell.at 3 rfl rfl, ?_⟩ | refine ⟨_, Cell.at 4 rfl rfl, ?_⟩ | refine ⟨_, Cell.at 5 rfl rfl, ?_⟩ | refine ⟨_, Cell.at 6 rfl rfl, ?_⟩ | refine ⟨_, Cell.at 7 rfl rfl, ?_⟩ | fail); try (with_reducible refine stI ?_); try simp (maxSteps:=1000000)(dsimp:=false)(disch:=omega) only [go_sem, Φa, hP, h13_3, h13_9, h13_11, hops]) | fail)
                  all_goals
                    refine hK34 () _ (some (b8, .cells ((stepG g f d).1.cells (.slice A0st (stepG g f d).1.st.length c0st) (.slice A0pg (stepG g f d).1.pg.length c0pg) (.slice A0mm (stepG g f d).1.mm.length c0mm)).toArray 29 (0, 0)) :: n1 :: n2 :: n3 :: some (b7, .cells (nextG g).1.cells.toArray 45 (0, 0)) :: some (b2, .cells d.cells.toArray 50 (0, 0)) :: some (b1, .cells (f.cells (.slice Af f.bs.length cf)).toArray 40 (0, 0)) :: some (b0, .cells (g.cells (.slice As g.st.length cs) (.slice Ap g.pg.length cp) (.slice Am g.mm.length cm)).toArray 29 (0, 0)) :: L) _ (by first | exact Less.refl _ | exact Less.drop _ _ | exact Less.drops (Less.drop _ _) | exact Less.drops (Less.drops (Less.drop _ _)) | exact Less.drops (Less.drops (Less.drops (Less.drop _ _))) | exact Less.drops (Less.drops (Less.drops (Less.drops (Less.drop _ _)))) | (simp (disch := omega) only [e1, e2]; exact Less.refl _)) ?_
                    try dsimp only
                    refine ⟨?_, ?_, ?_, ?_, ?_, ?_⟩
                    · simp (maxSteps:=1000000)(dsimp:=false)(disch:=omega) only [go_sem, Φa, hP, h13_3, h13_9, h13_11]
                      first | done | (refine congrArg Value.bool ?_; rw [Bool.eq_iff_iff]; simp only [Bool.or_eq_true,Bool.and_eq_true,Bool.not_eq_true',Bool.not_eq_false',decide_eq_true_eq,decide_eq_false_iff_not,Bool.true_eq_false,Bool.false_eq_true,true_iff,iff_true,false_iff,iff_false,ne_eq]; omega) | (refine congrArg Value.bool ?_; simp_all; first | done | omega)
                    · simp (maxSteps:=1000000)(dsimp:=false)(disch:=omega) only [go_sem, Φa, hP, h13_3, h13_9, h13_11]
                    · simp (maxSteps:=1000000)(dsimp:=false)(disch:=omega) only [go_sem, Φa, hP, h13_3, h13_9, h13_11]
                    · simp (maxSteps:=1000000)(dsimp:=false)(disch:=omega) only [go_sem, Φa, hP, h13_3, h13_9, h13_11]
                    · rfl
                    · trivial
                · intro ss T14 L14 hI
                  simp only [h13_3, h13_9, h13_11] at hI 
                  obtain ⟨h14_111, h14_3, h14_9, h14_11, hL14, hinv⟩ := hI
                  replace hL14 := hL14.symm
                  subst hL14
                  clear h13_3 h13_9 h13_11 T13
                  refine RX.done ?_
                  simp (maxSteps:=1000000)(dsimp:=false)(disch:=omega) only [go_sem, Φa, hP, h14_111, h14_3, h14_9, h14_11, hops]
                  refine hK33 _ _ ?_
                  try clear hK33 K33
                  refine SX.cond_k fun X35 Y35 hX35 hY35 => ?_
                  simp (maxSteps:=1000000)(dsimp:=false)(disch:=omega) only [go_sem, Φa, hP, h14_111, h14_3, h14_9, h14_11, condVC]
                  refine hY35 ?_
                  clear hX35 hY35 X35 Y35
                  refine SX.skip ?_
                  try simp only [andThen_normal, andThen_ret, andThen_exit, inBlk_normal, inBlk_ret, inBlk_exit, Φd, if_true, if_false, ↓reduceIte]
                  refine hK32 _ _ ?_
                  try clear hK32 K32
                  refine SX.seq_k fun K36 hK36 => ?_
                  refine SX.seq_k fun K37 hK37 => ?_
                  refine SX.region_d [some 16] rfl (fun ops hops => ?_)
                  unfold Dsts at hops
                  simp (maxSteps:=1000000)(dsimp:=false)(disch:=omega) only [go_sem, Φa, hP, h14_111, h14_3, h14_9, h14_11, hops]
                  refine hK37 _ _ ?_
                  try clear hK37 K37
                  refine SX.block ?_
                  refine SX.live [3, 9, 11, 16] (fun T15 hT15 => ?_)
                  simp only [Φb, Φc, go_sem, Φa, hP, h14_111, h14_3, h14_9, h14_11] at hT15
                  obtain ⟨h15_3, h15_9, h15_11, h15_16⟩ := hT15
                  clear h14_111 h14_3 h14_9 h14_11 T14
                  refine SX.loop_k (fun (ss : (Nat)) T L' => (fun (k : Nat) => T 16 = .int .i64 (k : Int) ∧ T 3 = T15 3 ∧ T 9 = T15 9 ∧ T 11 = T15 11 ∧ L' = some (b8, .cells ((stepG g f d).1.cells (.slice A0st (stepG g f d).1.st.length c0st) (.slice A0pg (stepG g f d).1.pg.length c0pg) (.slice A0mm (stepG g f d).1.mm.length c0mm)).toArray 29 (0, 0)) :: n1 :: n2 :: n3 :: some (b7, .cells (nextG g).1.cells.toArray 45 (0, 0)) :: some (b2, .cells d.cells.toArray 50 (0, 0)) :: some (b1, .cells (f.cells (.slice Af f.bs.length cf)).toArray 40 (0, 0)) :: some (b0, .cells (g.cells (.slice As g.st.length cs) (.slice Ap g.pg.length cp) (.slice Am g.mm.length cm)).toArray 29 (0, 0)) :: L ∧ (k ≤ g.mm.length)) (ss)) (fun (ss : (Nat)) => (fun (k : Nat) => g.mm.length - k) (ss)) 0 ?_ ?_
                  · try dsimp only
                    refine ⟨?_, ?_, ?_, ?_, ?_, ?_⟩
                    · first | exact h15_16 | (rw [h15_16]; rfl) | (rw [h15_16]; simp; done)
                    · rfl
                    · rfl
                    · rfl
                    · rfl
                    · exact Nat.zero_le _
                  · intro k T16 L16 hI K38 hK38
                    try dsimp only at hI hK38
                    simp only [h15_3, h15_9, h15_11] at hI hK38
                    obtain ⟨h16_16, h16_3, h16_9, h16_11, hL16, hk⟩ := hI
                    replace hL16 := hL16.symm
                    subst hL16
                    clear h15_3 h15_9 h15_11 h15_16 T15
                    refine SX.seq_k fun K39 hK39 => ?_
                    refine SX.seq_k fun K40 hK40 => ?_
                    refine SX.region_d [some 112, some 113, some 114, some 115, some 116] rfl (fun ops hops => ?_)
                    unfold Dsts at hops
                    simp (maxSteps:=1000000)(dsimp:=false)(disch:=omega) only [go_sem, Φa, hP, h16_16, h16_3, h16_9, h16_11, hops]
                    refine ⟨_, Cell.at 7 rfl (show (GM.cells _ _ _ _)[22]? = _ from rfl), ?_⟩
                    try with_reducible refine stI ?_
                    try simp (maxSteps:=1000000)(dsimp:=false)(disch:=omega) only [go_sem, Φa, hP, h16_16, h16_3, h16_9, h16_11, hops]
                    refine hK40 _ _ ?_
                    try clear hK40 K40
                    refine SX.cond_k fun X41 Y41 hX41 hY41 => ?_
                    simp (maxSteps:=1000000)(dsimp:=false)(disch:=omega) only [go_sem, Φa, hP, h16_16, h16_3, h16_9, h16_11, condVC]
                    refine ⟨fun hc116 => hX41 ?_, fun hc116 => hY41 ?_⟩
                    · clear hX41 hY41 X41 Y41
                      refine SX.skip ?_
                      try simp only [andThen_normal, andThen_ret, andThen_exit, inBlk_normal, inBlk_ret, inBlk_exit, Φd, if_true, if_false, ↓reduceIte]
                      refine hK39 _ _ ?_
                      try clear hK39 K39
                      refine SX.seq_k fun K42 hK42 => ?_
                      refine SX.block ?_
                      refine SX.seq_k fun K43 hK43 => ?_
                      have hkm : k < g.mm.length := by omega
                      have hmk := hT.mm k hkm
                      have hkt : ((k : Int)).toNat = k := by omega
                      refine SX.region_d [some 119, some 120, some 121, some 122, some 123, some 17] rfl (fun ops hops => ?_)
                      unfold Dsts at hops
                      simp (maxSteps:=1000000)(dsimp:=false)(disch:=omega) only [go_sem, Φa, hP, h16_16, h16_3, h16_9, h16_11, hops]
                      refine ⟨_, Cell.at 7 rfl rfl, ?_⟩
                      try with_reducible refine stI ?_
                      try simp (maxSteps:=1000000)(dsimp:=false)(disch:=omega) only [go_sem, Φa, hP, h16_16, h16_3, h16_9, h16_11, hops]
                      refine ⟨_, Cell.at 7 rfl rfl, ?_⟩
                      try with_reducible refine stI ?_
                      try simp (maxSteps:=1000000)(dsimp:=false)(disch:=omega) only [go_sem, Φa, hP, h16_16, h16_3, h16_9, h16_11, hops]
                      refine ⟨_, Cell.at 7 rfl rfl, ?_⟩
                      try with_reducible refine stI ?_
                      try simp (maxSteps:=1000000)(dsimp:=false)(disch:=omega) only [go_sem, Φa, hP, h16_16, h16_3, h16_9, h16_11, hops]
                      refine ⟨_, Cell.at 7 rfl rfl, ?_⟩
                      try with_reducible refine stI ?_
                      try simp (maxSteps:=1000000)(dsimp:=false)(disch:=omega) only [go_sem, Φa, hP, h16_16, h16_3, h16_9, h16_11, hops]
                      refine ⟨_, Cell.at 7 rfl rfl, ?_⟩
                      try with_reducible refine stI ?_
                      try simp (maxSteps:=1000000)(dsimp:=false)(disch:=omega) only [go_sem, Φa, hP, h16_16, h16_3, h16_9, h16_11, hops]
                      refine ⟨_, Cell.at 7 rfl rfl, ?_⟩
                      try with_reducible refine stI ?_
                      try simp (maxSteps:=1000000)(dsimp:=false)(disch:=omega) only [go_sem, Φa, hP, h16_16, h16_3, h16_9, h16_11, hops]
                      refine ⟨_, Cell.at 7 rfl rfl, ?_⟩
                      try with_reducible refine stI ?_
                      try simp (maxSteps:=1000000)(dsimp:=false)(disch:=omega) only [go_sem, Φa, hP, h16_16, h16_3, h16_9, h16_11, hops]
                      refine ⟨_, Cell.at 7 rfl rfl, ?_⟩
                      try with_reducible refine stI ?_
                      try simp (maxSteps:=1000000)(dsimp:=false)(disch:=omega) only [go_sem, Φa, hP, h16_16, h16_3, h16_9, h16_11, hops]
                      refine ⟨_, Cell.at 7 rfl rfl, ?_⟩
                      try with_reducible refine stI ?_
                      try simp (maxSteps:=1000000)(dsimp:=false)(disch:=omega) only [go_sem, Φa, hP, h16_16, h16_3, h16_9, h16_11, hops]
                      refine ⟨_, Cell.at 7 rfl rfl, ?_⟩
                      try with_reducible refine stI ?_
                      try simp (maxSteps:=1000000)(dsimp:=false)(disch:=omega) only [go_sem, Φa, hP, h16_16, h16_3, h16_9, h16_11, hops]
                      refine ⟨_, Cell.at 7 rfl rfl, ?_⟩
                      try with_reducible refine stI ?_
                      try simp (maxSteps:=1000000)(dsimp:=false)(disch:=omega) only [go_sem, Φa, hP, h16_16, h16_3, h16_9, h16_11, hops]
                      refine ⟨_, Cell.at 7 rfl rfl, ?_⟩
                      try with_reducible refine stI ?_
                      try simp (maxSteps:=1000000)(dsimp:=false)(disch:=omega) only [go_sem, Φa, hP, h16_16, h16_3, h16_9, h16_11, hops]
                      refine ⟨_, Cell.at 7 rfl rfl, ?_⟩
                      try with_reducible refine stI ?_
                      try simp (maxSteps:=1000000)(dsimp:=false)(disch:=omega) only [go_sem, Φa, hP, h16_16, h16_3, h16_9, h16_11, hops]
                      refine ⟨_, Cell.at 7 rfl rfl, ?_⟩
                      try with_reducible refine stI ?_
                      try simp (maxSteps:=1000000)(dsimp:=false)(disch:=omega) only [go_sem, Φa, hP, h16_16, h16_3, h16_9, h16_11, hops]
                      refine ⟨_, Cell.at 7 rfl rfl, ?_⟩
                      try with_reducible refine stI ?_
                      try simp (maxSteps:=1000000)(dsimp:=false)(disch:=omega) only [go_sem, Φa, hP, h16_16, h16_3, h16_9, h16_11, hops]
                      refine ⟨_, Cell.at 7 rfl rfl, ?_⟩
                      try with_reducible refine stI ?_
                      try simp (maxSteps:=1000000)(dsimp:=false)(disch:=omega) only [go_sem, Φa, hP, h16_16, h16_3, h16_9, h16_11, hops]
                      refine ⟨_, Cell.at 7 rfl rfl, ?_⟩
                      try with_reducible refine stI ?_
                      try simp (maxSteps:=1000000)(dsimp:=false)(disch:=omega) only [go_sem, Φa, hP, h16_16, h16_3, h16_9, h16_11, hops]
                      refine ⟨_, Cell.at 7 rfl rfl, ?_⟩
                      try with_reducible refine stI ?_
                      try simp (maxSteps:=1000000)(dsimp:=false)(disch:=omega) only [go_sem, Φa, hP, h16_16, h16_3, h16_9, h16_11, hops]
                      refine ⟨_, Cell.at 7 rfl rfl, ?_⟩
                      try with_reducible refine stI ?_
                      try simp (maxSteps:=1000000)(dsimp:=false)(disch:=omega) only [go_sem, Φa, hP, h16_16, h16_3, h16_9, h16_11, hops]
                      refine ⟨_, Cell.at 7 rfl rfl, ?_⟩
                      try with_reducible refine stI ?_
                      try simp (maxSteps:=1000000)(dsimp:=false)(disch:=omega) only [go_sem, Φa, hP, h16_16, h16_3, h16_9, h16_11, hops]
                      refine ⟨_, Cell.at 7 rfl rfl, ?_⟩
                      try with_reducible refine stI ?_
                      try simp (maxSteps:=1000000)(dsimp:=false)(disch:=omega) only [go_sem, Φa, hP, h16_16, h16_3, h16_9, h16_11, hops]
                      refine ⟨_, Cell.at 7 rfl rfl, ?_⟩
                      try with_reducible refine stI ?_
                      try simp (maxSteps:=1000000)(dsimp:=false)(disch:=omega) only [go_sem, Φa, hP, h16_16, h16_3, h16_9, h16_11, hops]
                      refine ⟨_, Cell.at 7 rfl rfl, ?_⟩
                      try with_reducible refine stI ?_
                      try simp (maxSteps:=1000000)(dsimp:=false)(disch:=omega) only [go_sem, Φa, hP, h16_16, h16_3, h16_9, h16_11, hops]
                      refine ⟨_, Cell.at 4 rfl rfl, ?_⟩
                      try with_reducible refine stI ?_
                      try simp (maxSteps:=1000000)(dsimp:=false)(disch:=omega) only [go_sem, Φa, hP, h16_16, h16_3, h16_9, h16_11, hops]
                      refine ⟨_, Cell.at 4 rfl rfl, ?_⟩
                      try with_reducible refine stI ?_
                      try simp (maxSteps:=1000000)(dsimp:=false)(disch:=omega) only [go_sem, Φa, hP, h16_16, h16_3, h16_9, h16_11, hops]
                      refine ⟨_, Cell.at 4 rfl rfl, ?_⟩
                      try with_reducible refine stI ?_
                      try simp (maxSteps:=1000000)(dsimp:=false)(disch:=omega) only [go_sem, Φa, hP, h16_16, h16_3, h16_9, h16_11, hops]
                      refine ⟨_, Cell.at 4 rfl rfl, ?_⟩
                      try with_reducible refine stI ?_
                      try simp (maxSteps:=1000000)(dsimp:=false)(disch:=omega) only [go_sem, Φa, hP, h16_16, h16_3, h16_9, h16_11, hops]
                      refine ⟨_, Cell.at 4 rfl rfl, ?_⟩
                      try with_reducible refine stI ?_
                      try simp (maxSteps:=1000000)(dsimp:=false)(disch:=omega) only [go_sem, Φa, hP, h16_16, h16_3, h16_9, h16_11, hops]
                      refine ⟨_, Cell.at 4 rfl rfl, ?_⟩
                      try with_reducible refine stI ?_
                      try simp (maxSteps:=1000000)(dsimp:=false)(disch:=omega) only [go_sem, Φa, hP, h16_16, h16_3, h16_9, h16_11, hops]
                      first | (refine SCall.mono (lies_spec (g := g) (o := (nextG g).1) (a := 512 + (k : Int)) hP hg hoo (SlI.any hs) (SlI.any hp) (SlI.any hm)) ?_; rintro v_ L_ ⟨hv_, hL_⟩; rw [hv_, hL_]; clear hv_ hL_ v_ L_) | refine ⟨_, lies_spec (g := g) (o := (nextG g).1) (a := 512 + (k : Int)) hP hg hoo (SlI.any hs) (SlI.any hp) (SlI.any hm), ?_⟩ | refine ⟨_, fun L0 hl0 => lies_spec (g := g) (o := (nextG g).1) (a := 512 + (k : Int)) hP hg hoo (SlI.any hs) (SlI.any hp) (SlI.any hm), ?_⟩
                      try with_reducible refine stI ?_
                      try simp (maxSteps:=1000000)(dsimp:=false)(disch:=omega) only [go_sem, Φa, hP, h16_16, h16_3, h16_9, h16_11, hops]
                      refine hK43 _ _ ?_
                      try clear hK43 K43
                      refine SX.live [3, 9, 11, 16, 17] (fun T17 hT17 => ?_)
                      simp only [Φb, Φc, go_sem, Φa, hP, h16_16, h16_3, h16_9, h16_11] at hT17
                      obtain ⟨h17_3, h17_9, h17_11, h17_16, h17_17⟩ := hT17
                      clear h16_16 h16_3 h16_9 h16_11 T16
                      refine SX.seq_k fun K44 hK44 => ?_
                      refine SX.quiet_xd (hP ▸ T.mixed) (by kernel_rfl) [some 124, some 125, some 126, some 127, some 128, some 129, some 130, some 131, some 132, some 133, some 134, some 135, some 136, some 137, some 138] rfl (fun ops hops => ?_)
                      unfold Dsts at hops
                      refine QX.live [3, 9, 11, 16, 17] (fun T18 hT18 => ?_)
                      simp only [Φb, Φc, go_sem, Φa, hP, h17_3, h17_9, h17_11, h17_16, h17_17] at hT18
                      obtain ⟨h18_3, h18_9, h18_11, h18_16, h18_17⟩ := hT18
                      clear h17_3 h17_9 h17_11 h17_16 h17_17 T17
                      obtain ⟨a1, e1, hm1⟩ := sl_at (C := Cell Γ (some (b8, .cells ((stepG g f d).1.cells (.slice A0st (stepG g f d).1.st.length c0st) (.slice A0pg (stepG g f d).1.pg.length c0pg) (.slice A0mm (stepG g f d).1.mm.length c0mm)).toArray 29 (0, 0)) :: n1 :: n2 :: n3 :: some (b7, .cells (nextG g).1.cells.toArray 45 (0, 0)) :: some (b2, .cells d.cells.toArray 50 (0, 0)) :: some (b1, .cells (f.cells (.slice Af f.bs.length cf)).toArray 40 (0, 0)) :: some (b0, .cells (g.cells (.slice As g.st.length cs) (.slice Ap g.pg.length cp) (.slice Am g.mm.length cm)).toArray 29 (0, 0)) :: L)) (RowI.sl hr.mm (i := 3) rfl)
                      obtain ⟨a2, e2, hm2⟩ := sl_at (C := Cell Γ (some (b8, .cells ((stepG g f d).1.cells (.slice A0st (stepG g f d).1.st.length c0st) (.slice A0pg (stepG g f d).1.pg.length c0pg) (.slice A0mm (stepG g f d).1.mm.length c0mm)).toArray 29 (0, 0)) :: n1 :: n2 :: n3 :: some (b7, .cells (nextG g).1.cells.toArray 45 (0, 0)) :: some (b2, .cells d.cells.toArray 50 (0, 0)) :: some (b1, .cells (f.cells (.slice Af f.bs.length cf)).toArray 40 (0, 0)) :: some (b0, .cells (g.cells (.slice As g.st.length cs) (.slice Ap g.pg.length cp) (.slice Am g.mm.length cm)).toArray 29 (0, 0)) :: L)) (SlI.any hm)
                      replace e1 := e1 (by omega)
                      replace e2 := e2 (by omega)
                      simp only [e1, e2] at hm1 hm2
                      refine QX.join 15 (fun (ss : Unit) T L' => T 138 = .bool (false) ∧ T 3 = T18 3 ∧ T 9 = T18 9 ∧ T 11 = T18 11 ∧ T 16 = T18 16 ∧ L' = some (b8, .cells ((stepG g f d).1.cells (.slice A0st (stepG g f d).1.st.length c0st) (.slice A0pg (stepG g f d).1.pg.length c0pg) (.slice A0mm (stepG g f d).1.mm.length c0mm)).toArray 29 (0, 0)) :: n1 :: n2 :: n3 :: some (b7, .cells (nextG g).1.cells.toArray 45 (0, 0)) :: some (b2, .cells d.cells.toArray 50 (0, 0)) :: some (b1, .cells (f.cells (.slice Af f.bs.length cf)).toArray 40 (0, 0)) :: some (b0, .cells (g.cells (.slice As g.st.length cs) (.slice Ap g.pg.length cp) (.slice Am g.mm.length cm)).toArray 29 (0, 0)) :: L ∧ (True)) (fun K45 hK45 => ?_) ?_
                      · simp only [h18_3, h18_9, h18_11, h18_16] at hK45
                        simp (maxSteps:=1000000)(dsimp:=false)(disch:=omega) only [go_sem, Φa, hP, h18_3, h18_9, h18_11, h18_16, h18_17, hops, e1, e2]
                        repeat' (first | refine iteB (fun hg => ?_) (fun hg => ?_) | refine iteI (fun hg => ?_) (fun hg => ?_) | ((first | refine ⟨_, Cell.at 0 rfl (show (GM.cells _ _ _ _)[22]? = _ from rfl), ?_⟩ | refine ⟨_, hm1 k (by omega), ?_⟩ | refine ⟨_, Cell.at 7 rfl (show (GM.cells _ _ _ _)[22]? = _ from rfl), ?_⟩ | refine ⟨_, hm2 k (by omega), ?_⟩ | refine And.intro (by omega) ?_ | refine ⟨_, Cell.at 0 rfl rfl, ?_⟩ | refine ⟨_, Cell.at 1 rfl rfl, ?_⟩ | refine ⟨_, Cell.at 2 rfl rfl, ?_⟩ | refine ⟨_, Cell.at 3 rfl rfl, ?_⟩ | refine ⟨_, Cell.at 4 rfl rfl, ?_⟩ | refine ⟨_, Cell.at 5 rfl rfl, ?_⟩ | refine ⟨_, Cell.at 6 rfl rfl, ?_⟩ | refine ⟨_, Cell.at 7 rfl rfl, ?_⟩ | fail); try (with_reducible refine stI ?_); try simp (maxSteps:=1000000)(dsimp:=false)(disch:=omega) only [go_sem, Φa, hP, h18_3, h18_9, h18_11, h18_16, h18_17, hops, e1, e2]) | fail)
                        all_goals
                          refine hK45 () _ (some (b8, .cells ((stepG g f d).1.cells (.slice A0st (stepG g f d).1.st.length c0st) (.slice A0pg (stepG g f d).1.pg.length c0pg) (.slice A0mm (stepG g f d).1.mm.length c0mm)).toArray 29 (0, 0)) :: n1 :: n2 :: n3 :: some (b7, .cells (nextG g).1.cells.toArray 45 (0, 0)) :: some (b2, .cells d.cells.toArray 50 (0, 0)) :: some (b1, .cells (f.cells (.slice Af f.bs.length cf)).toArray 40 (0, 0)) :: some (b0, .cells (g.cells (.slice As g.st.length cs) (.slice Ap g.pg.length cp) (.slice Am g.mm.length cm)).toArray 29 (0, 0)) :: L) _ (by first | rfl | (simp only [e1, e2])) ?_
                          try dsimp only
                          refine ⟨?_, ?_, ?_, ?_, ?_, ?_, ?_⟩
                          · simp (maxSteps:=1000000)(dsimp:=false)(disch:=omega) only [go_sem, Φa, hP, h18_3, h18_9, h18_11, h18_16, h18_17]
                            first | done | (refine congrArg Value.bool ?_; simp_all; done)
                          · simp (maxSteps:=1000000)(dsimp:=false)(disch:=omega) only [go_sem, Φa, hP, h18_3, h18_9, h18_11, h18_16, h18_17]
                          · simp (maxSteps:=1000000)(dsimp:=false)(disch:=omega) only [go_sem, Φa, hP, h18_3, h18_9, h18_11, h18_16, h18_17]
                          · simp (maxSteps:=1000000)(dsimp:=false)(disch:=omega) only [go_sem, Φa, hP, h18_3, h18_9, h18_11, h18_16, h18_17]
                          · simp (maxSteps:=1000000)(dsimp:=false)(disch:=omega) only [go_sem, Φa, hP, h18_3, h18_9, h18_11, h18_16, h18_17]
                          · rfl
                          · trivial
                      · intro ss T19 L19 hE19 hI
                        simp only [h18_3, h18_9, h18_11, h18_16] at hI 
                        obtain ⟨h19_138, h19_3, h19_9, h19_11, h19_16, hL19, hinv⟩ := hI
                        replace hL19 := hL19.symm
                        subst hL19
                        clear h18_3 h18_9 h18_11 h18_16 h18_17 T18
                        clear hE19
                        refine QX.done ?_
                        simp (maxSteps:=1000000)(dsimp:=false)(disch:=omega) only [go_sem, Φa, hP, h19_138, h19_3, h19_9, h19_11, h19_16, hops]
                        refine hK44 _ _ ?_
                        try clear hK44 K44
                        refine SX.cond_k fun X46 Y46 hX46 hY46 => ?_
                        simp (maxSteps:=1000000)(dsimp:=false)(disch:=omega) only [go_sem, Φa, hP, h19_138, h19_3, h19_9, h19_11, h19_16, condVC]
                        refine hY46 ?_
                        clear hX46 hY46 X46 Y46
                        refine SX.skip ?_
                        try simp only [andThen_normal, andThen_ret, andThen_exit, inBlk_normal, inBlk_ret, inBlk_exit, Φd, if_true, if_false, ↓reduceIte]
                        refine hK42 _ _ ?_
                        try clear hK42 K42
                        refine SX.region_d [some 117, some 118, some 16] rfl (fun ops hops => ?_)
                        unfold Dsts at hops
                        simp (maxSteps:=1000000)(dsimp:=false)(disch:=omega) only [go_sem, Φa, hP, h19_138, h19_3, h19_9, h19_11, h19_16, hops]
                        repeat' ((first | refine And.intro (by omega) ?_ | fail); try (with_reducible refine stI ?_); try simp (maxSteps:=1000000)(dsimp:=false)(disch:=omega) only [go_sem, Φa, hP, h19_138, h19_3, h19_9, h19_11, h19_16, hops])
                        refine hK38 (k + 1) _ (some (b8, .cells ((stepG g f d).1.cells (.slice A0st (stepG g f d).1.st.length c0st) (.slice A0pg (stepG g f d).1.pg.length c0pg) (.slice A0mm (stepG g f d).1.mm.length c0mm)).toArray 29 (0, 0)) :: n1 :: n2 :: n3 :: some (b7, .cells (nextG g).1.cells.toArray 45 (0, 0)) :: some (b2, .cells d.cells.toArray 50 (0, 0)) :: some (b1, .cells (f.cells (.slice Af f.bs.length cf)).toArray 40 (0, 0)) :: some (b0, .cells (g.cells (.slice As g.st.length cs) (.slice Ap g.pg.length cp) (.slice Am g.mm.length cm)).toArray 29 (0, 0)) :: L) _ (by first | exact Less.refl _ | exact Less.drop _ _ | exact Less.drops (Less.drop _ _) | exact Less.drops (Less.drops (Less.drop _ _)) | exact Less.drops (Less.drops (Less.drops (Less.drop _ _))) | exact Less.drops (Less.drops (Less.drops (Less.drops (Less.drop _ _)))) | (simp (disch := omega) only [e1, e2]; exact Less.refl _)) ?_ ?_
                        · try dsimp only
                          refine ⟨?_, ?_, ?_, ?_, ?_, ?_⟩
                          · simp (maxSteps:=1000000)(dsimp:=false)(disch:=omega) only [go_sem, Φa, hP, h19_138, h19_3, h19_9, h19_11, h19_16]
                            first | done | rfl | skip
                          · simp (maxSteps:=1000000)(dsimp:=false)(disch:=omega) only [go_sem, Φa, hP, h19_138, h19_3, h19_9, h19_11, h19_16]
                          · simp (maxSteps:=1000000)(dsimp:=false)(disch:=omega) only [go_sem, Φa, hP, h19_138, h19_3, h19_9, h19_11, h19_16]
                          · simp (maxSteps:=1000000)(dsimp:=false)(disch:=omega) only [go_sem, Φa, hP, h19_138, h19_3, h19_9, h19_11, h19_16]
                          · rfl
                          · omega
                        · (try dsimp only); omega
                    · clear hX41 hY41 X41 Y41
                      refine SX.exit ?_
                      try simp only [andThen_normal, andThen_ret, andThen_exit, inBlk_normal, inBlk_ret, inBlk_exit, Φd, if_true, if_false, ↓reduceIte]
                      refine hK36 _ _ ?_
                      try clear hK36 K36
                      refine SX.seq_k fun K47 hK47 => ?_
                      refine SX.seq_k fun K48 hK48 => ?_
                      refine SX.region_xd [some 139, some 140, some 141, some 142, some 143, some 144, some 145, some 146, some 147, some 148, some 149, some 150, some 151, some 152, some 153, some 154, some 155, some 156, some 157, some 158, some 159, some 160, some 161, some 162, some 163, some 164, some 165, some 166, some 167, some 168, some 169, some 170, some 171, some 172, some 173, some 174, some 175, some 176, some 177, some 178, some 179] rfl (fun ops hops => ?_)
                      unfold Dsts at hops
                      refine RX.live [3, 9, 11] (fun T20 hT20 => ?_)
                      simp only [Φb, Φc, go_sem, Φa, hP, h16_16, h16_3, h16_9, h16_11] at hT20
                      obtain ⟨h20_3, h20_9, h20_11⟩ := hT20
                      clear h16_16 h16_3 h16_9 h16_11 T16
                      have hpg : (nextG g).1.op = 2 ∨ (nextG g).1.op = 20 ∨ (stepG g f d).1.pg = g.pg := by
                        by_cases h : (nextG g).1.op = 2
                        · exact .inl h
                        · by_cases h' : (nextG g).1.op = 20
                          · exact .inr (.inl h')
                          · exact .inr (.inr (hT.pg h h'))
                      have hpg2 : (nextG g).1.op = 2 ∨ (nextG g).1.op = 20 ∨ txt (stepG g f d).1.pg = txt g.pg := hpg.imp id (Or.imp id (fun h => by rw [h]))
                      have hdl := hT.dl
                      have hsd := hT.sd
                      have hgpg := hg.pg
                      refine RX.join 8 (fun (ss : Unit) T L' => T 146 = .bool (!decide ((nextG g).1.op = 2) && !decide ((nextG g).1.op = 20)) ∧ T 3 = T20 3 ∧ T 9 = T20 9 ∧ T 11 = T20 11 ∧ L' = some (b8, .cells ((stepG g f d).1.cells (.slice A0st (stepG g f d).1.st.length c0st) (.slice A0pg (stepG g f d).1.pg.length c0pg) (.slice A0mm (stepG g f d).1.mm.length c0mm)).toArray 29 (0, 0)) :: n1 :: n2 :: n3 :: some (b7, .cells (nextG g).1.cells.toArray 45 (0, 0)) :: some (b2, .cells d.cells.toArray 50 (0, 0)) :: some (b1, .cells (f.cells (.slice Af f.bs.length cf)).toArray 40 (0, 0)) :: some (b0, .cells (g.cells (.slice As g.st.length cs) (.slice Ap g.pg.length cp) (.slice Am g.mm.length cm)).toArray 29 (0, 0)) :: L ∧ (True)) (fun K49 hK49 => ?_) ?_
                      · simp only [h20_3, h20_9, h20_11] at hK49
                        simp (maxSteps:=1000000)(dsimp:=false)(disch:=omega) only [go_sem, Φa, hP, h20_3, h20_9, h20_11, hops]
                        repeat' (first | refine iteB (fun hg => ?_) (fun hg => ?_) | refine iteI (fun hg => ?_) (fun hg => ?_) | ((first | refine ⟨_, Cell.at 4 rfl (show (Ord.cells _)[0]? = some (.int .u8 ((nextG g).1.op : Int)) from rfl), ?_⟩ | refine ⟨_, Cell.at 0 rfl (show (GM.cells _ _ _ _)[21]? = _ from rfl), ?_⟩ | refine ⟨_, Cell.at 7 rfl (show (GM.cells _ _ _ _)[21]? = _ from rfl), ?_⟩ | refine ⟨_, Cell.at 0 rfl (show (GM.cells _ _ _ _)[19]? = _ from rfl), ?_⟩ | refine ⟨_, Cell.at 7 rfl (show (GM.cells _ _ _ _)[19]? = _ from rfl), ?_⟩ | refine ⟨_, Cell.at 0 rfl (show (GM.cells _ _ _ _)[20]? = _ from rfl), ?_⟩ | refine ⟨_, Cell.at 7 rfl (show (GM.cells _ _ _ _)[20]? = _ from rfl), ?_⟩ | ((with_reducible show convVCH _ _ _ (.slice A0pg _ _) _ _ _ _ _ _); refine conv_row (hP ▸ Try.underlying23) (hP ▸ Try.underlying9) (hP ▸ Try.underlying5) (RowI.sl hr.pg (i := 2) rfl) hfn.ok.pg ?_) | ((with_reducible show convVCH _ _ _ (.slice Ap _ _) _ _ _ _ _ _); refine conv_row (hP ▸ Try.underlying23) (hP ▸ Try.underlying9) (hP ▸ Try.underlying5) (SlI.any hp) hgpg ?_) | refine And.intro (by omega) ?_ | refine ⟨_, Cell.at 0 rfl rfl, ?_⟩ | refine ⟨_, Cell.at 1 rfl rfl, ?_⟩ | refine ⟨_, Cell.at 2 rfl rfl, ?_⟩ | refine ⟨_, Cell.at 3 rfl rfl, ?_⟩ | refine ⟨_, Cell.at 4 rfl rfl, ?_⟩ | refine ⟨_, Cell.at 5 rfl rfl, ?_⟩ | refine ⟨_, Cell.at 6 rfl rfl, ?_⟩ | refine ⟨_, Cell.at 7 rfl rfl, ?_⟩ | fail); try (with_reducible refine stI ?_); try simp (maxSteps:=1000000)(dsimp:=false)(disch:=omega) only [go_sem, Φa, hP, h20_3, h20_9, h20_11, hops]) | simp (maxSteps:=1000000)(dsimp:=false)(disch:=omega) only [go_sem, Φa, hP, h20_3, h20_9, h20_11, hops] | fail)
                        all_goals
                          refine hK49 () _ (some (b8, .cells ((stepG g f d).1.cells (.slice A0st (stepG g f d).1.st.length c0st) (.slice A0pg (stepG g f d).1.pg.length c0pg) (.slice A0mm (stepG g f d).1.mm.length c0mm)).toArray 29 (0, 0)) :: n1 :: n2 :: n3 :: some (b7, .cells (nextG g).1.cells.toArray 45 (0, 0)) :: some (b2, .cells d.cells.toArray 50 (0, 0)) :: some (b1, .cells (f.cells (.slice Af f.bs.length cf)).toArray 40 (0, 0)) :: some (b0, .cells (g.cells (.slice As g.st.length cs) (.slice Ap g.pg.length cp) (.slice Am g.mm.length cm)).toArray 29 (0, 0)) :: L) _ (by first | exact Less.refl _ | exact Less.drop _ _ | exact Less.drops (Less.drop _ _) | exact Less.drops (Less.drops (Less.drop _ _)) | exact Less.drops (Less.drops (Less.drops (Less.drop _ _))) | exact Less.drops (Less.drops (Less.drops (Less.drops (Less.drop _ _)))) | (simp (disch := omega) only [e1, e2]; exact Less.refl _)) ?_
                          try dsimp only
                          refine ⟨?_, ?_, ?_, ?_, ?_, ?_⟩
                          · simp (maxSteps:=1000000)(dsimp:=false)(disch:=omega) only [go_sem, Φa, hP, h20_3, h20_9, h20_11]
                            first | done | (refine congrArg Value.bool ?_; rw [Bool.eq_iff_iff]; simp only [Bool.or_eq_true,Bool.and_eq_true,Bool.not_eq_true',Bool.not_eq_false',decide_eq_true_eq,decide_eq_false_iff_not,Bool.true_eq_false,Bool.false_eq_true,true_iff,iff_true,false_iff,iff_false,ne_eq]; omega) | (refine congrArg Value.bool ?_; simp_all; first | done | omega)
                          · simp (maxSteps:=1000000)(dsimp:=false)(disch:=omega) only [go_sem, Φa, hP, h20_3, h20_9, h20_11]
                          · simp (maxSteps:=1000000)(dsimp:=false)(disch:=omega) only [go_sem, Φa, hP, h20_3, h20_9, h20_11]
                          · simp (maxSteps:=1000000)(dsimp:=false)(disch:=omega) only [go_sem, Φa, hP, h20_3, h20_9, h20_11]
                          · rfl
                          · trivial
                      · intro ss T21 L21 hI
                        simp only [h20_3, h20_9, h20_11] at hI 
                        obtain ⟨h21_146, h21_3, h21_9, h21_11, hL21, hinv⟩ := hI
                        replace hL21 := hL21.symm
                        subst hL21
                        clear h20_3 h20_9 h20_11 T20
                        refine RX.live [3, 9, 11, 146] (fun T22 hT22 => ?_)
                        simp only [Φb, Φc, go_sem, Φa, hP, h21_146, h21_3, h21_9, h21_11] at hT22
                        obtain ⟨h22_3, h22_9, h22_11, h22_146⟩ := hT22
                        clear h21_146 h21_3 h21_9 h21_11 T21
                        refine RX.join 9 (fun (ss : Unit) T L' => T 155 = .bool (false) ∧ T 3 = T22 3 ∧ T 9 = T22 9 ∧ T 11 = T22 11 ∧ L' = some (b8, .cells ((stepG g f d).1.cells (.slice A0st (stepG g f d).1.st.length c0st) (.slice A0pg (stepG g f d).1.pg.length c0pg) (.slice A0mm (stepG g f d).1.mm.length c0mm)).toArray 29 (0, 0)) :: n1 :: n2 :: n3 :: some (b7, .cells (nextG g).1.cells.toArray 45 (0, 0)) :: some (b2, .cells d.cells.toArray 50 (0, 0)) :: some (b1, .cells (f.cells (.slice Af f.bs.length cf)).toArray 40 (0, 0)) :: some (b0, .cells (g.cells (.slice As g.st.length cs) (.slice Ap g.pg.length cp) (.slice Am g.mm.length cm)).toArray 29 (0, 0)) :: L ∧ (True)) (fun K50 hK50 => ?_) ?_
                        · simp only [h22_3, h22_9, h22_11] at hK50
                          simp (maxSteps:=1000000)(dsimp:=false)(disch:=omega) only [go_sem, Φa, hP, h22_3, h22_9, h22_11, h22_146, hops]
                          repeat' (first | refine iteB (fun hg => ?_) (fun hg => ?_) | refine iteI (fun hg => ?_) (fun hg => ?_) | ((first | refine ⟨_, Cell.at 4 rfl (show (Ord.cells _)[0]? = some (.int .u8 ((nextG g).1.op : Int)) from rfl), ?_⟩ | refine ⟨_, Cell.at 0 rfl (show (GM.cells _ _ _ _)[21]? = _ from rfl), ?_⟩ | refine ⟨_, Cell.at 7 rfl (show (GM.cells _ _ _ _)[21]? = _ from rfl), ?_⟩ | refine ⟨_, Cell.at 0 rfl (show (GM.cells _ _ _ _)[19]? = _ from rfl), ?_⟩ | refine ⟨_, Cell.at 7 rfl (show (GM.cells _ _ _ _)[19]? = _ from rfl), ?_⟩ | refine ⟨_, Cell.at 0 rfl (show (GM.cells _ _ _ _)[20]? = _ from rfl), ?_⟩ | refine ⟨_, Cell.at 7 rfl (show (GM.cells _ _ _ _)[20]? = _ from rfl), ?_⟩ | ((with_reducible show convVCH _ _ _ (.slice A0pg _ _) _ _ _ _ _ _); refine conv_row (hP ▸ Try.underlying23) (hP ▸ Try.underlying9) (hP ▸ Try.underlying5) (RowI.sl hr.pg (i := 2) rfl) hfn.ok.pg ?_) | ((with_reducible show convVCH _ _ _ (.slice Ap _ _) _ _ _ _ _ _); refine conv_row (hP ▸ Try.underlying23) (hP ▸ Try.underlying9) (hP ▸ Try.underlying5) (SlI.any hp) hgpg ?_) | refine And.intro (by omega) ?_ | refine ⟨_, Cell.at 0 rfl rfl, ?_⟩ | refine ⟨_, Cell.at 1 rfl rfl, ?_⟩ | refine ⟨_, Cell.at 2 rfl rfl, ?_⟩ | refine ⟨_, Cell.at 3 rfl rfl, ?_⟩ | refine ⟨_, Cell.at 4 rfl rfl, ?_⟩ | refine ⟨_, Cell.at 5 rfl rfl, ?_⟩ | refine ⟨_, Cell.at 6 rfl rfl, ?_⟩ | refine ⟨_, Cell.at 7 rfl rfl, ?_⟩ | fail); try (with_reducible refine stI ?_); try simp (maxSteps:=1000000)(dsimp:=false)(disch:=omega) only [go_sem, Φa, hP, h22_3, h22_9, h22_11, h22_146, hops]) | simp (maxSteps:=1000000)(dsimp:=false)(disch:=omega) only [go_sem, Φa, hP, h22_3, h22_9, h22_11, h22_146, hops] | fail)
                          all_goals
                            refine hK50 () _ (some (b8, .cells ((stepG g f d).1.cells (.slice A0st (stepG g f d).1.st.length c0st) (.slice A0pg (stepG g f d).1.pg.length c0pg) (.slice A0mm (stepG g f d).1.mm.length c0mm)).toArray 29 (0, 0)) :: n1 :: n2 :: n3 :: some (b7, .cells (nextG g).1.cells.toArray 45 (0, 0)) :: some (b2, .cells d.cells.toArray 50 (0, 0)) :: some (b1, .cells (f.cells (.slice Af f.bs.length cf)).toArray 40 (0, 0)) :: some (b0, .cells (g.cells (.slice As g.st.length cs) (.slice Ap g.pg.length cp) (.slice Am g.mm.length cm)).toArray 29 (0, 0)) :: L) _ (by first | exact Less.refl _ | exact Less.drop _ _ | exact Less.drops (Less.drop _ _) | exact Less.drops (Less.drops (Less.drop _ _)) | exact Less.drops (Less.drops (Less.drops (Less.drop _ _))) | exact Less.drops (Less.drops (Less.drops (Less.drops (Less.drop _ _)))) | (simp (disch := omega) only [e1, e2]; exact Less.refl _)) ?_
                            try dsimp only
                            refine ⟨?_, ?_, ?_, ?_, ?_, ?_⟩
                            · simp (maxSteps:=1000000)(dsimp:=false)(disch:=omega) only [go_sem, Φa, hP, h22_3, h22_9, h22_11, h22_146]
                              first | done | (refine congrArg Value.bool ?_; rw [Bool.eq_iff_iff]; simp only [Bool.or_eq_true,Bool.and_eq_true,Bool.not_eq_true',Bool.not_eq_false',decide_eq_true_eq,decide_eq_false_iff_not,Bool.true_eq_false,Bool.false_eq_true,true_iff,iff_true,false_iff,iff_false,ne_eq]; omega) | (refine congrArg Value.bool ?_; simp_all; first | done | omega)
                            · simp (maxSteps:=1000000)(dsimp:=false)(disch:=omega) only [go_sem, Φa, hP, h22_3, h22_9, h22_11, h22_146]
                            · simp (maxSteps:=1000000)(dsimp:=false)(disch:=omega) only [go_sem, Φa, hP, h22_3, h22_9, h22_11, h22_146]
                            · simp (maxSteps:=1000000)(dsimp:=false)(disch:=omega) only [go_sem, Φa, hP, h22_3, h22_9, h22_11, h22_146]
                            · rfl
                            · trivial
                        · intro ss T23 L23 hI
                          simp only [h22_3, h22_9, h22_11] at hI 
                          obtain ⟨h23_155, h23_3, h23_9, h23_11, hL23, hinv⟩ := hI
                          replace hL23 := hL23.symm
                          subst hL23
                          clear h22_3 h22_9 h22_11 h22_146 T22
                          refine RX.live [3, 9, 11, 155] (fun T24 hT24 => ?_)
                          simp only [Φb, Φc, go_sem, Φa, hP, h23_155, h23_3, h23_9, h23_11] at hT24
                          obtain ⟨h24_3, h24_9, h24_11, h24_155⟩ := hT24
                          clear h23_155 h23_3 h23_9 h23_11 T23
                          refine RX.join 12 (fun (ss : Unit) T L' => T 167 = .bool (false) ∧ T 3 = T24 3 ∧ T 9 = T24 9 ∧ T 11 = T24 11 ∧ L' = some (b8, .cells ((stepG g f d).1.cells (.slice A0st (stepG g f d).1.st.length c0st) (.slice A0pg (stepG g f d).1.pg.length c0pg) (.slice A0mm (stepG g f d).1.mm.length c0mm)).toArray 29 (0, 0)) :: n1 :: n2 :: n3 :: some (b7, .cells (nextG g).1.cells.toArray 45 (0, 0)) :: some (b2, .cells d.cells.toArray 50 (0, 0)) :: some (b1, .cells (f.cells (.slice Af f.bs.length cf)).toArray 40 (0, 0)) :: some (b0, .cells (g.cells (.slice As g.st.length cs) (.slice Ap g.pg.length cp) (.slice Am g.mm.length cm)).toArray 29 (0, 0)) :: L ∧ (True)) (fun K51 hK51 => ?_) ?_
                          · simp only [h24_3, h24_9, h24_11] at hK51
                            simp (maxSteps:=1000000)(dsimp:=false)(disch:=omega) only [go_sem, Φa, hP, h24_3, h24_9, h24_11, h24_155, hops]
                            repeat' (first | refine iteB (fun hg => ?_) (fun hg => ?_) | refine iteI (fun hg => ?_) (fun hg => ?_) | ((first | refine ⟨_, Cell.at 4 rfl (show (Ord.cells _)[0]? = some (.int .u8 ((nextG g).1.op : Int)) from rfl), ?_⟩ | refine ⟨_, Cell.at 0 rfl (show (GM.cells _ _ _ _)[21]? = _ from rfl), ?_⟩ | refine ⟨_, Cell.at 7 rfl (show (GM.cells _ _ _ _)[21]? = _ from rfl), ?_⟩ | refine ⟨_, Cell.at 0 rfl (show (GM.cells _ _ _ _)[19]? = _ from rfl), ?_⟩ | refine ⟨_, Cell.at 7 rfl (show (GM.cells _ _ _ _)[19]? = _ from rfl), ?_⟩ | refine ⟨_, Cell.at 0 rfl (show (GM.cells _ _ _ _)[20]? = _ from rfl), ?_⟩ | refine ⟨_, Cell.at 7 rfl (show (GM.cells _ _ _ _)[20]? = _ from rfl), ?_⟩ | ((with_reducible show convVCH _ _ _ (.slice A0pg _ _) _ _ _ _ _ _); refine conv_row (hP ▸ Try.underlying23) (hP ▸ Try.underlying9) (hP ▸ Try.underlying5) (RowI.sl hr.pg (i := 2) rfl) hfn.ok.pg ?_) | ((with_reducible show convVCH _ _ _ (.slice Ap _ _) _ _ _ _ _ _); refine conv_row (hP ▸ Try.underlying23) (hP ▸ Try.underlying9) (hP ▸ Try.underlying5) (SlI.any hp) hgpg ?_) | refine And.intro (by omega) ?_ | refine ⟨_, Cell.at 0 rfl rfl, ?_⟩ | refine ⟨_, Cell.at 1 rfl rfl, ?_⟩ | refine ⟨_, Cell.at 2 rfl rfl, ?_⟩ | refine ⟨_, Cell.at 3 rfl rfl, ?_⟩ | refine ⟨_, Cell.at 4 rfl rfl, ?_⟩ | refine ⟨_, Cell.at 5 rfl rfl, ?_⟩ | refine ⟨_, Cell.at 6 rfl rfl, ?_⟩ | refine ⟨_, Cell.at 7 rfl rfl, ?_⟩ | fail); try (with_reducible refine stI ?_); try simp (maxSteps:=1000000)(dsimp:=false)(disch:=omega) only [go_sem, Φa, hP, h24_3, h24_9, h24_11, h24_155, hops]) | simp (maxSteps:=1000000)(dsimp:=false)(disch:=omega) only [go_sem, Φa, hP, h24_3, h24_9, h24_11, h24_155, hops] | fail)
                            all_goals
                              refine hK51 () _ (some (b8, .cells ((stepG g f d).1.cells (.slice A0st (stepG g f d).1.st.length c0st) (.slice A0pg (stepG g f d).1.pg.length c0pg) (.slice A0mm (stepG g f d).1.mm.length c0mm)).toArray 29 (0, 0)) :: n1 :: n2 :: n3 :: some (b7, .cells (nextG g).1.cells.toArray 45 (0, 0)) :: some (b2, .cells d.cells.toArray 50 (0, 0)) :: some (b1, .cells (f.cells (.slice Af f.bs.length cf)).toArray 40 (0, 0)) :: some (b0, .cells (g.cells (.slice As g.st.length cs) (.slice Ap g.pg.length cp) (.slice Am g.mm.length cm)).toArray 29 (0, 0)) :: L) _ (by first | exact Less.refl _ | exact Less.drop _ _ | exact Less.drops (Less.drop _ _) | exact Less.drops (Less.drops (Less.drop _ _)) | exact Less.drops (Less.drops (Less.drops (Less.drop _ _))) | exact Less.drops (Less.drops (Less.drops (Less.drops (Less.drop _ _)))) | (simp (disch := omega) only [e1, e2]; exact Less.refl _)) ?_
                              try dsimp only
                              refine ⟨?_, ?_, ?_, ?_, ?_, ?_⟩
                              · simp (maxSteps:=1000000)(dsimp:=false)(disch:=omega) only [go_sem, Φa, hP, h24_3, h24_9, h24_11, h24_155]
                                first | done | (refine congrArg Value.bool ?_; rw [Bool.eq_iff_iff]; simp only [Bool.or_eq_true,Bool.and_eq_true,Bool.not_eq_true',Bool.not_eq_false',decide_eq_true_eq,decide_eq_false_iff_not,Bool.true_eq_false,Bool.false_eq_true,true_iff,iff_true,false_iff,iff_false,ne_eq]; omega) | (refine congrArg Value.bool ?_; simp_all; first | done | omega)
                              · simp (maxSteps:=1000000)(dsimp:=false)(disch:=omega) only [go_sem, Φa, hP, h24_3, h24_9, h24_11, h24_155]
                              · simp (maxSteps:=1000000)(dsimp:=false)(disch:=omega) only [go_sem, Φa, hP, h24_3, h24_9, h24_11, h24_155]
                              · simp (maxSteps:=1000000)(dsimp:=false)(disch:=omega) only [go_sem, Φa, hP, h24_3, h24_9, h24_11, h24_155]
                              · rfl
                              · trivial
                          · intro ss T25 L25 hI
                            simp only [h24_3, h24_9, h24_11] at hI 
                            obtain ⟨h25_167, h25_3, h25_9, h25_11, hL25, hinv⟩ := hI
                            replace hL25 := hL25.symm
                            subst hL25
                            clear h24_3 h24_9 h24_11 h24_155 T24
                            refine RX.live [3, 9, 11, 167] (fun T26 hT26 => ?_)
                            simp only [Φb, Φc, go_sem, Φa, hP, h25_167, h25_3, h25_9, h25_11] at hT26
                            obtain ⟨h26_3, h26_9, h26_11, h26_167⟩ := hT26
                            clear h25_167 h25_3 h25_9 h25_11 T25
                            refine RX.join 12 (fun (ss : Unit) T L' => T 179 = .bool (false) ∧ T 3 = T26 3 ∧ T 9 = T26 9 ∧ T 11 = T26 11 ∧ L' = some (b8, .cells ((stepG g f d).1.cells (.slice A0st (stepG g f d).1.st.length c0st) (.slice A0pg (stepG g f d).1.pg.length c0pg) (.slice A0mm (stepG g f d).1.mm.length c0mm)).toArray 29 (0, 0)) :: n1 :: n2 :: n3 :: some (b7, .cells (nextG g).1.cells.toArray 45 (0, 0)) :: some (b2, .cells d.cells.toArray 50 (0, 0)) :: some (b1, .cells (f.cells (.slice Af f.bs.length cf)).toArray 40 (0, 0)) :: some (b0, .cells (g.cells (.slice As g.st.length cs) (.slice Ap g.pg.length cp) (.slice Am g.mm.length cm)).toArray 29 (0, 0)) :: L ∧ (True)) (fun K52 hK52 => ?_) ?_
                            · simp only [h26_3, h26_9, h26_11] at hK52
                              simp (maxSteps:=1000000)(dsimp:=false)(disch:=omega) only [go_sem, Φa, hP, h26_3, h26_9, h26_11, h26_167, hops]
                              repeat' (first | refine iteB (fun hg => ?_) (fun hg => ?_) | refine iteI (fun hg => ?_) (fun hg => ?_) | ((first | refine ⟨_, Cell.at 4 rfl (show (Ord.cells _)[0]? = some (.int .u8 ((nextG g).1.op : Int)) from rfl), ?_⟩ | refine ⟨_, Cell.at 0 rfl (show (GM.cells _ _ _ _)[21]? = _ from rfl), ?_⟩ | refine ⟨_, Cell.at 7 rfl (show (GM.cells _ _ _ _)[21]? = _ from rfl), ?_⟩ | refine ⟨_, Cell.at 0 rfl (show (GM.cells _ _ _ _)[19]? = _ from rfl), ?_⟩ | refine ⟨_, Cell.at 7 rfl (show (GM.cells _ _ _ _)[19]? = _ from rfl), ?_⟩ | refine ⟨_, Cell.at 0 rfl (show (GM.cells _ _ _ _)[20]? = _ from rfl), ?_⟩ | refine ⟨_, Cell.at 7 rfl (show (GM.cells _ _ _ _)[20]? = _ from rfl), ?_⟩ | ((with_reducible show convVCH _ _ _ (.slice A0pg _ _) _ _ _ _ _ _); refine conv_row (hP ▸ Try.underlying23) (hP ▸ Try.underlying9) (hP ▸ Try.underlying5) (RowI.sl hr.pg (i := 2) rfl) hfn.ok.pg ?_) | ((with_reducible show convVCH _ _ _ (.slice Ap _ _) _ _ _ _ _ _); refine conv_row (hP ▸ Try.underlying23) (hP ▸ Try.underlying9) (hP ▸ Try.underlying5) (SlI.any hp) hgpg ?_) | refine And.intro (by omega) ?_ | refine ⟨_, Cell.at 0 rfl rfl, ?_⟩ | refine ⟨_, Cell.at 1 rfl rfl, ?_⟩ | refine ⟨_, Cell.at 2 rfl rfl, ?_⟩ | refine ⟨_, Cell.at 3 rfl rfl, ?_⟩ | refine ⟨_, Cell.at 4 rfl rfl, ?_⟩ | refine ⟨_, Cell.at 5 rfl rfl, ?_⟩ | refine ⟨_, Cell.at 6 rfl rfl, ?_⟩ | refine ⟨_, Cell.at 7 rfl rfl, ?_⟩ | fail); try (with_reducible refine stI ?_); try simp (maxSteps:=1000000)(dsimp:=false)(disch:=omega) only [go_sem, Φa, hP, h26_3, h26_9, h26_11, h26_167, hops]) | simp (maxSteps:=1000000)(dsimp:=false)(disch:=omega) only [go_sem, Φa, hP, h26_3, h26_9, h26_11, h26_167, hops] | fail)
                              all_goals
                                refine hK52 () _ (some (b8, .cells ((stepG g f d).1.cells (.slice A0st (stepG g f d).1.st.length c0st) (.slice A0pg (stepG g f d).1.pg.length c0pg) (.slice A0mm (stepG g f d).1.mm.length c0mm)).toArray 29 (0, 0)) :: n1 :: n2 :: n3 :: some (b7, .cells (nextG g).1.cells.toArray 45 (0, 0)) :: some (b2, .cells d.cells.toArray 50 (0, 0)) :: some (b1, .cells (f.cells (.slice Af f.bs.length cf)).toArray 40 (0, 0)) :: some (b0, .cells (g.cells (.slice As g.st.length cs) (.slice Ap g.pg.length cp) (.slice Am g.mm.length cm)).toArray 29 (0, 0)) :: L) _ (by first | exact Less.refl _ | exact Less.drop _ _ | exact Less.drops (Less.drop _ _) | exact Less.drops (Less.drops (Less.drop _ _)) | exact Less.drops (Less.drops (Less.drops (Less.drop _ _))) | exact Less.drops (Less.drops (Less.drops (Less.drops (Less.drop _ _)))) | (simp (disch := omega) only [e1, e2]; exact Less.refl _)) ?_
                                try dsimp only
                                refine ⟨?_, ?_, ?_, ?_, ?_, ?_⟩
                                · simp (maxSteps:=1000000)(dsimp:=false)(disch:=omega) only [go_sem, Φa, hP, h26_3, h26_9, h26_11, h26_167]
                                  first | done | (refine congrArg Value.bool ?_; rw [Bool.eq_iff_iff]; simp only [Bool.or_eq_true,Bool.and_eq_true,Bool.not_eq_true',Bool.not_eq_false',decide_eq_true_eq,decide_eq_false_iff_not,Bool.true_eq_false,Bool.false_eq_true,true_iff,iff_true,false_iff,iff_false,ne_eq]; omega) | (refine congrArg Value.bool ?_; simp_all; first | done | omega)
                                · simp (maxSteps:=1000000)(dsimp:=false)(disch:=omega) only [go_sem, Φa, hP, h26_3, h26_9, h26_11, h26_167]
                                · simp (maxSteps:=1000000)(dsimp:=false)(disch:=omega) only [go_sem, Φa, hP, h26_3, h26_9, h26_11, h26_167]
                                · simp (maxSteps:=1000000)(dsimp:=false)(disch:=omega) only [go_sem, Φa, hP, h26_3, h26_9, h26_11, h26_167]
                                · rfl
                                · trivial
                            · intro ss T27 L27 hI
                              simp only [h26_3, h26_9, h26_11] at hI 
                              obtain ⟨h27_179, h27_3, h27_9, h27_11, hL27, hinv⟩ := hI
                              replace hL27 := hL27.symm
                              subst hL27
                              clear h26_3 h26_9 h26_11 h26_167 T26
                              refine RX.done ?_
                              simp (maxSteps:=1000000)(dsimp:=false)(disch:=omega) only [go_sem, Φa, hP, h27_179, h27_3, h27_9, h27_11, hops]
                              refine hK48 _ _ ?_
                              try clear hK48 K48
                              refine SX.cond_k fun X53 Y53 hX53 hY53 => ?_
                              simp (maxSteps:=1000000)(dsimp:=false)(disch:=omega) only [go_sem, Φa, hP, h27_179, h27_3, h27_9, h27_11, condVC]
                              refine hY53 ?_
                              clear hX53 hY53 X53 Y53
                              refine SX.skip ?_
                              try simp only [andThen_normal, andThen_ret, andThen_exit, inBlk_normal, inBlk_ret, inBlk_exit, Φd, if_true, if_false, ↓reduceIte]
                              refine hK47 _ _ ?_
                              try clear hK47 K47
                              refine SX.seq_k fun K54 hK54 => ?_
                              refine SX.seq_k fun K55 hK55 => ?_
                              refine SX.region_xd [some 180, some 181, some 182, some 183, some 184, some 185, some 186, some 187, some 188, some 189, some 190, some 191, some 192, some 193, some 194, some 195, some 196, some 197, some 198, some 199, some 200, some 201, some 202, some 203, some 204, some 205, some 206, some 207, some 208, some 209] rfl (fun ops hops => ?_)
                              unfold Dsts at hops
                              refine RX.live [3, 9, 11] (fun T28 hT28 => ?_)
                              simp only [Φb, Φc, go_sem, Φa, hP, h27_179, h27_3, h27_9, h27_11] at hT28
                              obtain ⟨h28_3, h28_9, h28_11⟩ := hT28
                              clear h27_179 h27_3 h27_9 h27_11 T27
                              have hIT := hT.I
                              refine RX.join 8 (fun (ss : Unit) T L' => T 187 = .bool (!decide ((nextG g).1.op = 17) && !decide ((nextG g).1.op = 27)) ∧ T 3 = T28 3 ∧ T 9 = T28 9 ∧ T 11 = T28 11 ∧ L' = some (b8, .cells ((stepG g f d).1.cells (.slice A0st (stepG g f d).1.st.length c0st) (.slice A0pg (stepG g f d).1.pg.length c0pg) (.slice A0mm (stepG g f d).1.mm.length c0mm)).toArray 29 (0, 0)) :: n1 :: n2 :: n3 :: some (b7, .cells (nextG g).1.cells.toArray 45 (0, 0)) :: some (b2, .cells d.cells.toArray 50 (0, 0)) :: some (b1, .cells (f.cells (.slice Af f.bs.length cf)).toArray 40 (0, 0)) :: some (b0, .cells (g.cells (.slice As g.st.length cs) (.slice Ap g.pg.length cp) (.slice Am g.mm.length cm)).toArray 29 (0, 0)) :: L ∧ (True)) (fun K56 hK56 => ?_) ?_
                              · simp only [h28_3, h28_9, h28_11] at hK56
                                simp (maxSteps:=1000000)(dsimp:=false)(disch:=omega) only [go_sem, Φa, hP, h28_3, h28_9, h28_11, hops]
                                repeat' (first | refine iteB (fun hg => ?_) (fun hg => ?_) | refine iteI (fun hg => ?_) (fun hg => ?_) | ((first | refine ⟨_, Cell.at 4 rfl (show (Ord.cells _)[0]? = some (.int .u8 ((nextG g).1.op : Int)) from rfl), ?_⟩ | refine ⟨_, Cell.at 0 rfl (show (GM.cells _ _ _ _)[16]? = _ from rfl), ?_⟩ | refine ⟨_, Cell.at 7 rfl (show (GM.cells _ _ _ _)[16]? = _ from rfl), ?_⟩ | refine And.intro (by omega) ?_ | refine ⟨_, Cell.at 0 rfl rfl, ?_⟩ | refine ⟨_, Cell.at 1 rfl rfl, ?_⟩ | refine ⟨_, Cell.at 2 rfl rfl, ?_⟩ | refine ⟨_, Cell.at 3 rfl rfl, ?_⟩ | refine ⟨_, Cell.at 4 rfl rfl, ?_⟩ | refine ⟨_, Cell.at 5 rfl rfl, ?_⟩ | refine ⟨_, Cell.at 6 rfl rfl, ?_⟩ | refine ⟨_, Cell.at 7 rfl rfl, ?_⟩ | fail); try (with_reducible refine stI ?_); try simp (maxSteps:=1000000)(dsimp:=false)(disch:=omega) only [go_sem, Φa, hP, h28_3, h28_9, h28_11, hops]) | fail)
                                all_goals
                                  refine hK56 () _ (some (b8, .cells ((stepG g f d).1.cells (.slice A0st (stepG g f d).1.st.length c0st) (.slice A0pg (stepG g f d).1.pg.length c0pg) (.slice A0mm (stepG g f d).1.mm.length c0mm)).toArray 29 (0, 0)) :: n1 :: n2 :: n3 :: some (b7, .cells (nextG g).1.cells.toArray 45 (0, 0)) :: some (b2, .cells d.cells.toArray 50 (0, 0)) :: some (b1, .cells (f.cells (.slice Af f.bs.length cf)).toArray 40 (0, 0)) :: some (b0, .cells (g.cells (.slice As g.st.length cs) (.slice Ap g.pg.length cp) (.slice Am g.mm.length cm)).toArray 29 (0, 0)) :: L) _ (by first | exact Less.refl _ | exact Less.drop _ _ | exact Less.drops (Less.drop _ _) | exact Less.drops (Less.drops (Less.drop _ _)) | exact Less.drops (Less.drops (Less.drops (Less.drop _ _))) | exact Less.drops (Less.drops (Less.drops (Less.drops (Less.drop _ _)))) | (simp (disch := omega) only [e1, e2]; exact Less.refl _)) ?_
                                  try dsimp only
                                  refine ⟨?_, ?_, ?_, ?_, ?_, ?_⟩
                                  · simp (maxSteps:=1000000)(dsimp:=false)(disch:=omega) only [go_sem, Φa, hP, h28_3, h28_9, h28_11]
                                    first | done | (refine congrArg Value.bool ?_; rw [Bool.eq_iff_iff]; simp only [Bool.or_eq_true,Bool.and_eq_true,Bool.not_eq_true',Bool.not_eq_false',decide_eq_true_eq,decide_eq_false_iff_not,Bool.true_eq_false,Bool.false_eq_true,true_iff,iff_true,false_iff,iff_false,ne_eq]; omega) | (refine congrArg Value.bool ?_; simp_all; first | done | omega)
                                  · simp (maxSteps:=1000000)(dsimp:=false)(disch:=omega) only [go_sem, Φa, hP, h28_3, h28_9, h28_11]
                                  · simp (maxSteps:=1000000)(dsimp:=false)(disch:=omega) only [go_sem, Φa, hP, h28_3, h28_9, h28_11]
                                  · simp (maxSteps:=1000000)(dsimp:=false)(disch:=omega) only [go_sem, Φa, hP, h28_3, h28_9, h28_11]
                                  · rfl
                                  · trivial
                              · intro ss T29 L29 hI
                                simp only [h28_3, h28_9, h28_11] at hI 
                                obtain ⟨h29_187, h29_3, h29_9, h29_11, hL29, hinv⟩ := hI
                                replace hL29 := hL29.symm
                                subst hL29
                                clear h28_3 h28_9 h28_11 T28
                                refine RX.live [3, 9, 11, 187] (fun T30 hT30 => ?_)
                                simp only [Φb, Φc, go_sem, Φa, hP, h29_187, h29_3, h29_9, h29_11] at hT30
                                obtain ⟨h30_3, h30_9, h30_11, h30_187⟩ := hT30
                                clear h29_187 h29_3 h29_9 h29_11 T29
                                refine RX.join 5 (fun (ss : Unit) T L' => T 192 = .bool (!decide ((nextG g).1.op = 17) && !decide ((nextG g).1.op = 27) && !decide ((nextG g).1.op = 28)) ∧ T 3 = T30 3 ∧ T 9 = T30 9 ∧ T 11 = T30 11 ∧ L' = some (b8, .cells ((stepG g f d).1.cells (.slice A0st (stepG g f d).1.st.length c0st) (.slice A0pg (stepG g f d).1.pg.length c0pg) (.slice A0mm (stepG g f d).1.mm.length c0mm)).toArray 29 (0, 0)) :: n1 :: n2 :: n3 :: some (b7, .cells (nextG g).1.cells.toArray 45 (0, 0)) :: some (b2, .cells d.cells.toArray 50 (0, 0)) :: some (b1, .cells (f.cells (.slice Af f.bs.length cf)).toArray 40 (0, 0)) :: some (b0, .cells (g.cells (.slice As g.st.length cs) (.slice Ap g.pg.length cp) (.slice Am g.mm.length cm)).toArray 29 (0, 0)) :: L ∧ (True)) (fun K57 hK57 => ?_) ?_
                                · simp only [h30_3, h30_9, h30_11] at hK57
                                  simp (maxSteps:=1000000)(dsimp:=false)(disch:=omega) only [go_sem, Φa, hP, h30_3, h30_9, h30_11, h30_187, hops]
                                  repeat' (first | refine iteB (fun hg => ?_) (fun hg => ?_) | refine iteI (fun hg => ?_) (fun hg => ?_) | ((first | refine ⟨_, Cell.at 4 rfl (show (Ord.cells _)[0]? = some (.int .u8 ((nextG g).1.op : Int)) from rfl), ?_⟩ | refine ⟨_, Cell.at 0 rfl (show (GM.cells _ _ _ _)[16]? = _ from rfl), ?_⟩ | refine ⟨_, Cell.at 7 rfl (show (GM.cells _ _ _ _)[16]? = _ from rfl), ?_⟩ | refine And.intro (by omega) ?_ | refine ⟨_, Cell.at 0 rfl rfl, ?_⟩ | refine ⟨_, Cell.at 1 rfl rfl, ?_⟩ | refine ⟨_, Cell.at 2 rfl rfl, ?_⟩ | refine ⟨_, Cell.at 3 rfl rfl, ?_⟩ | refine ⟨_, Cell.at 4 rfl rfl, ?_⟩ | refine ⟨_, Cell.at 5 rfl rfl, ?_⟩ | refine ⟨_, Cell.at 6 rfl rfl, ?_⟩ | refine ⟨_, Cell.at 7 rfl rfl, ?_⟩ | fail); try (with_reducible refine stI ?_); try simp (maxSteps:=1000000)(dsimp:=false)(disch:=omega) only [go_sem, Φa, hP, h30_3, h30_9, h30_11, h30_187, hops]) | fail)
                                  all_goals
                                    refine hK57 () _ (some (b8, .cells ((stepG g f d).1.cells (.slice A0st (stepG g f d).1.st.length c0st) (.slice A0pg (stepG g f d).1.pg.length c0pg) (.slice A0mm (stepG g f d).1.mm.length c0mm)).toArray 29 (0, 0)) :: n1 :: n2 :: n3 :: some (b7, .cells (nextG g).1.cells.toArray 45 (0, 0)) :: some (b2, .cells d.cells.toArray 50 (0, 0)) :: some (b1, .cells (f.cells (.slice Af f.bs.length cf)).toArray 40 (0, 0)) :: some (b0, .cells (g.cells (.slice As g.st.length cs) (.slice Ap g.pg.length cp) (.slice Am g.mm.length cm)).toArray 29 (0, 0)) :: L) _ (by first | exact Less.refl _ | exact Less.drop _ _ | exact Less.drops (Less.drop _ _) | exact Less.drops (Less.drops (Less.drop _ _)) | exact Less.drops (Less.drops (Less.drops (Less.drop _ _))) | exact Less.drops (Less.drops (Less.drops (Less.drops (Less.drop _ _)))) | (simp (disch := omega) only [e1, e2]; exact Less.refl _)) ?_
                                    try dsimp only
                                    refine ⟨?_, ?_, ?_, ?_, ?_, ?_⟩
                                    · simp (maxSteps:=1000000)(dsimp:=false)(disch:=omega) only [go_sem, Φa, hP, h30_3, h30_9, h30_11, h30_187]
                                      first | done | (refine congrArg Value.bool ?_; rw [Bool.eq_iff_iff]; simp only [Bool.or_eq_true,Bool.and_eq_true,Bool.not_eq_true',Bool.not_eq_false',decide_eq_true_eq,decide_eq_false_iff_not,Bool.true_eq_false,Bool.false_eq_true,true_iff,iff_true,false_iff,iff_false,ne_eq]; omega) | (refine congrArg Value.bool ?_; simp_all; first | done | omega)
                                    · simp (maxSteps:=1000000)(dsimp:=false)(disch:=omega) only [go_sem, Φa, hP, h30_3, h30_9, h30_11, h30_187]
                                    · simp (maxSteps:=1000000)(dsimp:=false)(disch:=omega) only [go_sem, Φa, hP, h30_3, h30_9, h30_11, h30_187]
                                    · simp (maxSteps:=1000000)(dsimp:=false)(disch:=omega) only [go_sem, Φa, hP, h30_3, h30_9, h30_11, h30_187]
                                    · rfl
                                    · trivial
                                · intro ss T31 L31 hI
                                  simp only [h30_3, h30_9, h30_11] at hI 
                                  obtain ⟨h31_192, h31_3, h31_9, h31_11, hL31, hinv⟩ := hI
                                  replace hL31 := hL31.symm
                                  subst hL31
                                  clear h30_3 h30_9 h30_11 h30_187 T30
                                  refine RX.live [3, 9, 11, 192] (fun T32 hT32 => ?_)
                                  simp only [Φb, Φc, go_sem, Φa, hP, h31_192, h31_3, h31_9, h31_11] at hT32
                                  obtain ⟨h32_3, h32_9, h32_11, h32_192⟩ := hT32
                                  clear h31_192 h31_3 h31_9 h31_11 T31
                                  refine RX.join 5 (fun (ss : Unit) T L' => T 197 = .bool (!decide ((nextG g).1.op = 17) && !decide ((nextG g).1.op = 27) && !decide ((nextG g).1.op = 28) && !decide ((nextG g).1.op = 30)) ∧ T 3 = T32 3 ∧ T 9 = T32 9 ∧ T 11 = T32 11 ∧ L' = some (b8, .cells ((stepG g f d).1.cells (.slice A0st (stepG g f d).1.st.length c0st) (.slice A0pg (stepG g f d).1.pg.length c0pg) (.slice A0mm (stepG g f d).1.mm.length c0mm)).toArray 29 (0, 0)) :: n1 :: n2 :: n3 :: some (b7, .cells (nextG g).1.cells.toArray 45 (0, 0)) :: some (b2, .cells d.cells.toArray 50 (0, 0)) :: some (b1, .cells (f.cells (.slice Af f.bs.length cf)).toArray 40 (0, 0)) :: some (b0, .cells (g.cells (.slice As g.st.length cs) (.slice Ap g.pg.length cp) (.slice Am g.mm.length cm)).toArray 29 (0, 0)) :: L ∧ (True)) (fun K58 hK58 => ?_) ?_
                                  · simp only [h32_3, h32_9, h32_11] at hK58
                                    simp (maxSteps:=1000000)(dsimp:=false)(disch:=omega) only [go_sem, Φa, hP, h32_3, h32_9, h32_11, h32_192, hops]
                                    repeat' (first | refine iteB (fun hg => ?_) (fun hg => ?_) | refine iteI (fun hg => ?_) (fun hg => ?_) | ((first | refine ⟨_, Cell.at 4 rfl (show (Ord.cells _)[0]? = some (.int .u8 ((nextG g).1.op : Int)) from rfl), ?_⟩ | refine ⟨_, Cell.at 0 rfl (show (GM.cells _ _ _ _)[16]? = _ from rfl), ?_⟩ | refine ⟨_, Cell.at 7 rfl (show (GM.cells _ _ _ _)[16]? = _ from rfl), ?_⟩ | refine And.intro (by omega) ?_ | refine ⟨_, Cell.at 0 rfl rfl, ?_⟩ | refine ⟨_, Cell.at 1 rfl rfl, ?_⟩ | refine ⟨_, Cell.at 2 rfl rfl, ?_⟩ | refine ⟨_, Cell.at 3 rfl rfl, ?_⟩ | refine ⟨_, Cell.at 4 rfl rfl, ?_⟩ | refine ⟨_, Cell.at 5 rfl rfl, ?_⟩ | refine ⟨_, Cell.at 6 rfl rfl, ?_⟩ | refine ⟨_, Cell.at 7 rfl rfl, ?_⟩ | fail); try (with_reducible refine stI ?_); try simp (maxSteps:=1000000)(dsimp:=false)(disch:=omega) only [go_sem, Φa, hP, h32_3, h32_9, h32_11, h32_192, hops]) | fail)
                                    all_goals
                                      refine hK58 () _ (some (b8, .cells ((stepG g f d).1.cells (.slice A0st (stepG g f d).1.st.length c0st) (.slice A0pg (stepG g f d).1.pg.length c0pg) (.slice A0mm (stepG g f d).1.mm.length c0mm)).toArray 29 (0, 0)) :: n1 :: n2 :: n3 :: some (b7, .cells (nextG g).1.cells.toArray 45 (0, 0)) :: some (b2, .cells d.cells.toArray 50 (0, 0)) :: some (b1, .cells (f.cells (.slice Af f.bs.length cf)).toArray 40 (0, 0)) :: some (b0, .cells (g.cells (.slice As g.st.length cs) (.slice Ap g.pg.length cp) (.slice Am g.mm.length cm)).toArray 29 (0, 0)) :: L) _ (by first | exact Less.refl _ | exact Less.drop _ _ | exact Less.drops (Less.drop _ _) | exact Less.drops (Less.drops (Less.drop _ _)) | exact Less.drops (Less.drops (Less.drops (Less.drop _ _))) | exact Less.drops (Less.drops (Less.drops (Less.drops (Less.drop _ _)))) | (simp (disch := omega) only [e1, e2]; exact Less.refl _)) ?_
                                      try dsimp only
                                      refine ⟨?_, ?_, ?_, ?_, ?_, ?_⟩
                                      · simp (maxSteps:=1000000)(dsimp:=false)(disch:=omega) only [go_sem, Φa, hP, h32_3, h32_9, h32_11, h32_192]
                                        first | done | (refine congrArg Value.bool ?_; rw [Bool.eq_iff_iff]; simp only [Bool.or_eq_true,Bool.and_eq_true,Bool.not_eq_true',Bool.not_eq_false',decide_eq_true_eq,decide_eq_false_iff_not,Bool.true_eq_false,Bool.false_eq_true,true_iff,iff_true,false_iff,iff_false,ne_eq]; omega) | (refine congrArg Value.bool ?_; simp_all; first | done | omega)
                                      · simp (maxSteps:=1000000)(dsimp:=false)(disch:=omega) only [go_sem, Φa, hP, h32_3, h32_9, h32_11, h32_192]
                                      · simp (maxSteps:=1000000)(dsimp:=false)(disch:=omega) only [go_sem, Φa, hP, h32_3, h32_9, h32_11, h32_192]
                                      · simp (maxSteps:=1000000)(dsimp:=false)(disch:=omega) only [go_sem, Φa, hP, h32_3, h32_9, h32_11, h32_192]
                                      · rfl
                                      · trivial
                                  · intro ss T33 L33 hI
                                    simp only [h32_3, h32_9, h32_11] at hI 
                                    obtain ⟨h33_197, h33_3, h33_9, h33_11, hL33, hinv⟩ := hI
                                    replace hL33 := hL33.symm
                                    subst hL33
                                    clear h32_3 h32_9 h32_11 h32_192 T32
                                    refine RX.live [3, 9, 11, 197] (fun T34 hT34 => ?_)
                                    simp only [Φb, Φc, go_sem, Φa, hP, h33_197, h33_3, h33_9, h33_11] at hT34
                                    obtain ⟨h34_3, h34_9, h34_11, h34_197⟩ := hT34
                                    clear h33_197 h33_3 h33_9 h33_11 T33
                                    refine RX.join 5 (fun (ss : Unit) T L' => T 202 = .bool (!decide ((nextG g).1.op = 17) && !decide ((nextG g).1.op = 27) && !decide ((nextG g).1.op = 28) && !decide ((nextG g).1.op = 30) && !decide ((nextG g).1.op = 31)) ∧ T 3 = T34 3 ∧ T 9 = T34 9 ∧ T 11 = T34 11 ∧ L' = some (b8, .cells ((stepG g f d).1.cells (.slice A0st (stepG g f d).1.st.length c0st) (.slice A0pg (stepG g f d).1.pg.length c0pg) (.slice A0mm (stepG g f d).1.mm.length c0mm)).toArray 29 (0, 0)) :: n1 :: n2 :: n3 :: some (b7, .cells (nextG g).1.cells.toArray 45 (0, 0)) :: some (b2, .cells d.cells.toArray 50 (0, 0)) :: some (b1, .cells (f.cells (.slice Af f.bs.length cf)).toArray 40 (0, 0)) :: some (b0, .cells (g.cells (.slice As g.st.length cs) (.slice Ap g.pg.length cp) (.slice Am g.mm.length cm)).toArray 29 (0, 0)) :: L ∧ (True)) (fun K59 hK59 => ?_) ?_
                                    · simp only [h34_3, h34_9, h34_11] at hK59
                                      simp (maxSteps:=1000000)(dsimp:=false)(disch:=omega) only [go_sem, Φa, hP, h34_3, h34_9, h34_11, h34_197, hops]
                                      repeat' (first | refine iteB (fun hg => ?_) (fun hg => ?_) | refine iteI (fun hg => ?_) (fun hg => ?_) | ((first | refine ⟨_, Cell.at 4 rfl (show (Ord.cells _)[0]? = some (.int .u8 ((nextG g).1.op : Int)) from rfl), ?_⟩ | refine ⟨_, Cell.at 0 rfl (show (GM.cells _ _ _ _)[16]? = _ from rfl), ?_⟩ | refine ⟨_, Cell.at 7 rfl (show (GM.cells _ _ _ _)[16]? = _ from rfl), ?_⟩ | refine And.intro (by omega) ?_ | refine ⟨_, Cell.at 0 rfl rfl, ?_⟩ | refine ⟨_, Cell.at 1 rfl rfl, ?_⟩ | refine ⟨_, Cell.at 2 rfl rfl, ?_⟩ | refine ⟨_, Cell.at 3 rfl rfl, ?_⟩ | refine ⟨_, Cell.at 4 rfl rfl, ?_⟩ | refine ⟨_, Cell.at 5 rfl rfl, ?_⟩ | refine ⟨_, Cell.at 6 rfl rfl, ?_⟩ | refine ⟨_, Cell.at 7 rfl rfl, ?_⟩ | fail); try (with_reducible refine stI ?_); try simp (maxSteps:=1000000)(dsimp:=false)(disch:=omega) only [go_sem, Φa, hP, h34_3, h34_9, h34_11, h34_197, hops]) | fail)
                                      all_goals
                                        refine hK59 () _ (some (b8, .cells ((stepG g f d).1.cells (.slice A0st (stepG g f d).1.st.length c0st) (.slice A0pg (stepG g f d).1.pg.length c0pg) (.slice A0mm (stepG g f d).1.mm.length c0mm)).toArray 29 (0, 0)) :: n1 :: n2 :: n3 :: some (b7, .cells (nextG g).1.cells.toArray 45 (0, 0)) :: some (b2, .cells d.cells.toArray 50 (0, 0)) :: some (b1, .cells (f.cells (.slice Af f.bs.length cf)).toArray 40 (0, 0)) :: some (b0, .cells (g.cells (.slice As g.st.length cs) (.slice Ap g.pg.length cp) (.slice Am g.mm.length cm)).toArray 29 (0, 0)) :: L) _ (by first | exact Less.refl _ | exact Less.drop _ _ | exact Less.drops (Less.drop _ _) | exact Less.drops (Less.drops (Less.drop _ _)) | exact Less.drops (Less.drops (Less.drops (Less.drop _ _))) | exact Less.drops (Less.drops (Less.drops (Less.drops (Less.drop _ _)))) | (simp (disch := omega) only [e1, e2]; exact Less.refl _)) ?_
                                        try dsimp only
                                        refine ⟨?_, ?_, ?_, ?_, ?_, ?_⟩
                                        · simp (maxSteps:=1000000)(dsimp:=false)(disch:=omega) only [go_sem, Φa, hP, h34_3, h34_9, h34_11, h34_197]
                                          first | done | (refine congrArg Value.bool ?_; rw [Bool.eq_iff_iff]; simp only [Bool.or_eq_true,Bool.and_eq_true,Bool.not_eq_true',Bool.not_eq_false',decide_eq_true_eq,decide_eq_false_iff_not,Bool.true_eq_false,Bool.false_eq_true,true_iff,iff_true,false_iff,iff_false,ne_eq]; omega) | (refine congrArg Value.bool ?_; simp_all; first | done | omega)
                                        · simp (maxSteps:=1000000)(dsimp:=false)(disch:=omega) only [go_sem, Φa, hP, h34_3, h34_9, h34_11, h34_197]
                                        · simp (maxSteps:=1000000)(dsimp:=false)(disch:=omega) only [go_sem, Φa, hP, h34_3, h34_9, h34_11, h34_197]
                                        · simp (maxSteps:=1000000)(dsimp:=false)(disch:=omega) only [go_sem, Φa, hP, h34_3, h34_9, h34_11, h34_197]
                                        · rfl
                                        · trivial
                                    · intro ss T35 L35 hI
                                      simp only [h34_3, h34_9, h34_11] at hI 
                                      obtain ⟨h35_202, h35_3, h35_9, h35_11, hL35, hinv⟩ := hI
                                      replace hL35 := hL35.symm
                                      subst hL35
                                      clear h34_3 h34_9 h34_11 h34_197 T34
                                      refine RX.live [3, 9, 11, 202] (fun T36 hT36 => ?_)
                                      simp only [Φb, Φc, go_sem, Φa, hP, h35_202, h35_3, h35_9, h35_11] at hT36
                                      obtain ⟨h36_3, h36_9, h36_11, h36_202⟩ := hT36
                                      clear h35_202 h35_3 h35_9 h35_11 T35
                                      refine RX.join 7 (fun (ss : Unit) T L' => T 209 = .bool (false) ∧ T 3 = T36 3 ∧ T 9 = T36 9 ∧ T 11 = T36 11 ∧ L' = some (b8, .cells ((stepG g f d).1.cells (.slice A0st (stepG g f d).1.st.length c0st) (.slice A0pg (stepG g f d).1.pg.length c0pg) (.slice A0mm (stepG g f d).1.mm.length c0mm)).toArray 29 (0, 0)) :: n1 :: n2 :: n3 :: some (b7, .cells (nextG g).1.cells.toArray 45 (0, 0)) :: some (b2, .cells d.cells.toArray 50 (0, 0)) :: some (b1, .cells (f.cells (.slice Af f.bs.length cf)).toArray 40 (0, 0)) :: some (b0, .cells (g.cells (.slice As g.st.length cs) (.slice Ap g.pg.length cp) (.slice Am g.mm.length cm)).toArray 29 (0, 0)) :: L ∧ (True)) (fun K60 hK60 => ?_) ?_
                                      · simp only [h36_3, h36_9, h36_11] at hK60
                                        simp (maxSteps:=1000000)(dsimp:=false)(disch:=omega) only [go_sem, Φa, hP, h36_3, h36_9, h36_11, h36_202, hops]
                                        repeat' (first | refine iteB (fun hg => ?_) (fun hg => ?_) | refine iteI (fun hg => ?_) (fun hg => ?_) | ((first | refine ⟨_, Cell.at 4 rfl (show (Ord.cells _)[0]? = some (.int .u8 ((nextG g).1.op : Int)) from rfl), ?_⟩ | refine ⟨_, Cell.at 0 rfl (show (GM.cells _ _ _ _)[16]? = _ from rfl), ?_⟩ | refine ⟨_, Cell.at 7 rfl (show (GM.cells _ _ _ _)[16]? = _ from rfl), ?_⟩ | refine And.intro (by omega) ?_ | refine ⟨_, Cell.at 0 rfl rfl, ?_⟩ | refine ⟨_, Cell.at 1 rfl rfl, ?_⟩ | refine ⟨_, Cell.at 2 rfl rfl, ?_⟩ | refine ⟨_, Cell.at 3 rfl rfl, ?_⟩ | refine ⟨_, Cell.at 4 rfl rfl, ?_⟩ | refine ⟨_, Cell.at 5 rfl rfl, ?_⟩ | refine ⟨_, Cell.at 6 rfl rfl, ?_⟩ | refine ⟨_, Cell.at 7 rfl rfl, ?_⟩ | fail); try (with_reducible refine stI ?_); try simp (maxSteps:=1000000)(dsimp:=false)(disch:=omega) only [go_sem, Φa, hP, h36_3, h36_9, h36_11, h36_202, hops]) | fail)
                                        all_goals
                                          refine hK60 () _ (some (b8, .cells ((stepG g f d).1.cells (.slice A0st (stepG g f d).1.st.length c0st) (.slice A0pg (stepG g f d).1.pg.length c0pg) (.slice A0mm (stepG g f d).1.mm.length c0mm)).toArray 29 (0, 0)) :: n1 :: n2 :: n3 :: some (b7, .cells (nextG g).1.cells.toArray 45 (0, 0)) :: some (b2, .cells d.cells.toArray 50 (0, 0)) :: some (b1, .cells (f.cells (.slice Af f.bs.length cf)).toArray 40 (0, 0)) :: some (b0, .cells (g.cells (.slice As g.st.length cs) (.slice Ap g.pg.length cp) (.slice Am g.mm.length cm)).toArray 29 (0, 0)) :: L) _ (by first | exact Less.refl _ | exact Less.drop _ _ | exact Less.drops (Less.drop _ _) | exact Less.drops (Less.drops (Less.drop _ _)) | exact Less.drops (Less.drops (Less.drops (Less.drop _ _))) | exact Less.drops (Less.drops (Less.drops (Less.drops (Less.drop _ _)))) | (simp (disch := omega) only [e1, e2]; exact Less.refl _)) ?_
                                          try dsimp only
                                          refine ⟨?_, ?_, ?_, ?_, ?_, ?_⟩
                                          · simp (maxSteps:=1000000)(dsimp:=false)(disch:=omega) only [go_sem, Φa, hP, h36_3, h36_9, h36_11, h36_202]
                                            first | done | (refine congrArg Value.bool ?_; rw [Bool.eq_iff_iff]; simp only [Bool.or_eq_true,Bool.and_eq_true,Bool.not_eq_true',Bool.not_eq_false',decide_eq_true_eq,decide_eq_false_iff_not,Bool.true_eq_false,Bool.false_eq_true,true_iff,iff_true,false_iff,iff_false,ne_eq]; omega) | (refine congrArg Value.bool ?_; simp_all; first | done | omega)
                                          · simp (maxSteps:=1000000)(dsimp:=false)(disch:=omega) only [go_sem, Φa, hP, h36_3, h36_9, h36_11, h36_202]
                                          · simp (maxSteps:=1000000)(dsimp:=false)(disch:=omega) only [go_sem, Φa, hP, h36_3, h36_9, h36_11, h36_202]
                                          · simp (maxSteps:=1000000)(dsimp:=false)(disch:=omega) only [go_sem, Φa, hP, h36_3, h36_9, h36_11, h36_202]
                                          · rfl
                                          · trivial
                                      · intro ss T37 L37 hI
                                        simp only [h36_3, h36_9, h36_11] at hI 
                                        obtain ⟨h37_209, h37_3, h37_9, h37_11, hL37, hinv⟩ := hI
                                        replace hL37 := hL37.symm
                                        subst hL37
                                        clear h36_3 h36_9 h36_11 h36_202 T36
                                        refine RX.done ?_
                                        simp (maxSteps:=1000000)(dsimp:=false)(disch:=omega) only [go_sem, Φa, hP, h37_209, h37_3, h37_9, h37_11, hops]
                                        refine hK55 _ _ ?_
                                        try clear hK55 K55
                                        refine SX.cond_k fun X61 Y61 hX61 hY61 => ?_
                                        simp (maxSteps:=1000000)(dsimp:=false)(disch:=omega) only [go_sem, Φa, hP, h37_209, h37_3, h37_9, h37_11, condVC]
                                        refine hY61 ?_
                                        clear hX61 hY61 X61 Y61
                                        refine SX.skip ?_
                                        try simp only [andThen_normal, andThen_ret, andThen_exit, inBlk_normal, inBlk_ret, inBlk_exit, Φd, if_true, if_false, ↓reduceIte]
                                        refine hK54 _ _ ?_
                                        try clear hK54 K54
                                        refine SX.seq_k fun K62 hK62 => ?_
                                        have hstl := hT.stl
                                        refine SX.region_d [some 210, some 211, some 212, some 18] rfl (fun ops hops => ?_)
                                        unfold Dsts at hops
                                        simp (maxSteps:=1000000)(dsimp:=false)(disch:=omega) only [go_sem, Φa, hP, h37_209, h37_3, h37_9, h37_11, hops]
                                        refine ⟨_, Cell.at 7 rfl (show (GM.cells _ _ _ _)[18]? = _ from rfl), ?_⟩
                                        try with_reducible refine stI ?_
                                        try simp (maxSteps:=1000000)(dsimp:=false)(disch:=omega) only [go_sem, Φa, hP, h37_209, h37_3, h37_9, h37_11, hops]
                                        refine hK62 _ _ ?_
                                        try clear hK62 K62
                                        refine SX.live [3, 9, 11, 18] (fun T38 hT38 => ?_)
                                        simp only [Φb, Φc, go_sem, Φa, hP, h37_209, h37_3, h37_9, h37_11] at hT38
                                        obtain ⟨h38_3, h38_9, h38_11, h38_18⟩ := hT38
                                        clear h37_209 h37_3 h37_9 h37_11 T37
                                        refine SX.join (fun (ss : Unit) T L' => T 18 = .int .i64 ((g.st.length : Int) + if (nextG g).1.op = 5 then 1 else 0) ∧ T 3 = T38 3 ∧ T 9 = T38 9 ∧ T 11 = T38 11 ∧ L' = some (b8, .cells ((stepG g f d).1.cells (.slice A0st (stepG g f d).1.st.length c0st) (.slice A0pg (stepG g f d).1.pg.length c0pg) (.slice A0mm (stepG g f d).1.mm.length c0mm)).toArray 29 (0, 0)) :: n1 :: n2 :: n3 :: some (b7, .cells (nextG g).1.cells.toArray 45 (0, 0)) :: some (b2, .cells d.cells.toArray 50 (0, 0)) :: some (b1, .cells (f.cells (.slice Af f.bs.length cf)).toArray 40 (0, 0)) :: some (b0, .cells (g.cells (.slice As g.st.length cs) (.slice Ap g.pg.length cp) (.slice Am g.mm.length cm)).toArray 29 (0, 0)) :: L ∧ (True)) (fun K63 hK63 => ?_) ?_
                                        · simp only [h38_3, h38_9, h38_11] at hK63
                                          refine SX.seq_k fun K64 hK64 => ?_
                                          refine SX.region_d [some 213, some 214, some 215] rfl (fun ops hops => ?_)
                                          unfold Dsts at hops
                                          simp (maxSteps:=1000000)(dsimp:=false)(disch:=omega) only [go_sem, Φa, hP, h38_3, h38_9, h38_11, h38_18, hops]
                                          refine ⟨_, Cell.at 4 rfl (show (Ord.cells _)[0]? = some (.int .u8 ((nextG g).1.op : Int)) from rfl), ?_⟩
                                          try with_reducible refine stI ?_
                                          try simp (maxSteps:=1000000)(dsimp:=false)(disch:=omega) only [go_sem, Φa, hP, h38_3, h38_9, h38_11, h38_18, hops]
                                          refine hK64 _ _ ?_
                                          try clear hK64 K64
                                          refine SX.cond_k fun X65 Y65 hX65 hY65 => ?_
                                          simp (maxSteps:=1000000)(dsimp:=false)(disch:=omega) only [go_sem, Φa, hP, h38_3, h38_9, h38_11, h38_18, condVC]
                                          refine ⟨fun hc215 => hX65 ?_, fun hc215 => hY65 ?_⟩
                                          · clear hX65 hY65 X65 Y65
                                            refine SX.region_d [some 216, some 217, some 18] rfl (fun ops hops => ?_)
                                            unfold Dsts at hops
                                            simp (maxSteps:=1000000)(dsimp:=false)(disch:=omega) only [go_sem, Φa, hP, h38_3, h38_9, h38_11, h38_18, hops]
                                            repeat' ((first | refine And.intro (by omega) ?_ | fail); try (with_reducible refine stI ?_); try simp (maxSteps:=1000000)(dsimp:=false)(disch:=omega) only [go_sem, Φa, hP, h38_3, h38_9, h38_11, h38_18, hops])
                                            refine hK63 () _ (some (b8, .cells ((stepG g f d).1.cells (.slice A0st (stepG g f d).1.st.length c0st) (.slice A0pg (stepG g f d).1.pg.length c0pg) (.slice A0mm (stepG g f d).1.mm.length c0mm)).toArray 29 (0, 0)) :: n1 :: n2 :: n3 :: some (b7, .cells (nextG g).1.cells.toArray 45 (0, 0)) :: some (b2, .cells d.cells.toArray 50 (0, 0)) :: some (b1, .cells (f.cells (.slice Af f.bs.length cf)).toArray 40 (0, 0)) :: some (b0, .cells (g.cells (.slice As g.st.length cs) (.slice Ap g.pg.length cp) (.slice Am g.mm.length cm)).toArray 29 (0, 0)) :: L) _ (by first | exact Less.refl _ | exact Less.drop _ _ | exact Less.drops (Less.drop _ _) | exact Less.drops (Less.drops (Less.drop _ _)) | exact Less.drops (Less.drops (Less.drops (Less.drop _ _))) | exact Less.drops (Less.drops (Less.drops (Less.drops (Less.drop _ _)))) | (simp (disch := omega) only [e1, e2]; exact Less.refl _)) ?_
                                            try dsimp only
                                            refine ⟨?_, ?_, ?_, ?_, ?_, ?_⟩
                                            · simp (maxSteps:=1000000)(dsimp:=false)(disch:=omega) only [go_sem, Φa, hP, h38_3, h38_9, h38_11, h38_18]
                                              first | done | (refine congrArg (Value.int .i64) ?_; split <;> omega)
                                            · simp (maxSteps:=1000000)(dsimp:=false)(disch:=omega) only [go_sem, Φa, hP, h38_3, h38_9, h38_11, h38_18]
                                            · simp (maxSteps:=1000000)(dsimp:=false)(disch:=omega) only [go_sem, Φa, hP, h38_3, h38_9, h38_11, h38_18]
                                            · simp (maxSteps:=1000000)(dsimp:=false)(disch:=omega) only [go_sem, Φa, hP, h38_3, h38_9, h38_11, h38_18]
                                            · rfl
                                            · trivial
                                          · clear hX65 hY65 X65 Y65
                                            refine SX.skip ?_
                                            try simp only [andThen_normal, andThen_ret, andThen_exit, inBlk_normal, inBlk_ret, inBlk_exit, Φd, if_true, if_false, ↓reduceIte]
                                            refine hK63 () _ (some (b8, .cells ((stepG g f d).1.cells (.slice A0st (stepG g f d).1.st.length c0st) (.slice A0pg (stepG g f d).1.pg.length c0pg) (.slice A0mm (stepG g f d).1.mm.length c0mm)).toArray 29 (0, 0)) :: n1 :: n2 :: n3 :: some (b7, .cells (nextG g).1.cells.toArray 45 (0, 0)) :: some (b2, .cells d.cells.toArray 50 (0, 0)) :: some (b1, .cells (f.cells (.slice Af f.bs.length cf)).toArray 40 (0, 0)) :: some (b0, .cells (g.cells (.slice As g.st.length cs) (.slice Ap g.pg.length cp) (.slice Am g.mm.length cm)).toArray 29 (0, 0)) :: L) _ (by first | exact Less.refl _ | exact Less.drop _ _ | exact Less.drops (Less.drop _ _) | exact Less.drops (Less.drops (Less.drop _ _)) | exact Less.drops (Less.drops (Less.drops (Less.drop _ _))) | exact Less.drops (Less.drops (Less.drops (Less.drops (Less.drop _ _)))) | (simp (disch := omega) only [e1, e2]; exact Less.refl _)) ?_
                                            try dsimp only
                                            refine ⟨?_, ?_, ?_, ?_, ?_, ?_⟩
                                            · simp (maxSteps:=1000000)(dsimp:=false)(disch:=omega) only [go_sem, Φa, hP, h38_3, h38_9, h38_11, h38_18]
                                              first | done | (refine congrArg (Value.int .i64) ?_; split <;> omega)
                                            · simp (maxSteps:=1000000)(dsimp:=false)(disch:=omega) only [go_sem, Φa, hP, h38_3, h38_9, h38_11, h38_18]
                                            · simp (maxSteps:=1000000)(dsimp:=false)(disch:=omega) only [go_sem, Φa, hP, h38_3, h38_9, h38_11, h38_18]
                                            · simp (maxSteps:=1000000)(dsimp:=false)(disch:=omega) only [go_sem, Φa, hP, h38_3, h38_9, h38_11, h38_18]
                                            · rfl
                                            · trivial
                                        · intro ss T39 L39 hI
                                          simp only [h38_3, h38_9, h38_11] at hI 
                                          obtain ⟨h39_18, h39_3, h39_9, h39_11, hL39, hinv⟩ := hI
                                          replace hL39 := hL39.symm
                                          subst hL39
                                          clear h38_3 h38_9 h38_11 h38_18 T38
                                          refine SX.live [3, 9, 11, 18] (fun T40 hT40 => ?_)
                                          simp only [Φb, Φc, go_sem, Φa, hP, h39_18, h39_3, h39_9, h39_11] at hT40
                                          obtain ⟨h40_3, h40_9, h40_11, h40_18⟩ := hT40
                                          clear h39_18 h39_3 h39_9 h39_11 T39
                                          refine SX.join (fun (ss : Unit) T L' => T 18 = .int .i64 ((stepG g f d).1.st.length : Int) ∧ T 3 = T40 3 ∧ T 9 = T40 9 ∧ T 11 = T40 11 ∧ L' = some (b8, .cells ((stepG g f d).1.cells (.slice A0st (stepG g f d).1.st.length c0st) (.slice A0pg (stepG g f d).1.pg.length c0pg) (.slice A0mm (stepG g f d).1.mm.length c0mm)).toArray 29 (0, 0)) :: n1 :: n2 :: n3 :: some (b7, .cells (nextG g).1.cells.toArray 45 (0, 0)) :: some (b2, .cells d.cells.toArray 50 (0, 0)) :: some (b1, .cells (f.cells (.slice Af f.bs.length cf)).toArray 40 (0, 0)) :: some (b0, .cells (g.cells (.slice As g.st.length cs) (.slice Ap g.pg.length cp) (.slice Am g.mm.length cm)).toArray 29 (0, 0)) :: L ∧ (True)) (fun K66 hK66 => ?_) ?_
                                          · simp only [h40_3, h40_9, h40_11] at hK66
                                            refine SX.seq_k fun K67 hK67 => ?_
                                            refine SX.region_d [some 218, some 219, some 220] rfl (fun ops hops => ?_)
                                            unfold Dsts at hops
                                            simp (maxSteps:=1000000)(dsimp:=false)(disch:=omega) only [go_sem, Φa, hP, h40_3, h40_9, h40_11, h40_18, hops]
                                            refine ⟨_, Cell.at 4 rfl (show (Ord.cells _)[0]? = some (.int .u8 ((nextG g).1.op : Int)) from rfl), ?_⟩
                                            try with_reducible refine stI ?_
                                            try simp (maxSteps:=1000000)(dsimp:=false)(disch:=omega) only [go_sem, Φa, hP, h40_3, h40_9, h40_11, h40_18, hops]
                                            refine hK67 _ _ ?_
                                            try clear hK67 K67
                                            refine SX.cond_k fun X68 Y68 hX68 hY68 => ?_
                                            simp (maxSteps:=1000000)(dsimp:=false)(disch:=omega) only [go_sem, Φa, hP, h40_3, h40_9, h40_11, h40_18, condVC]
                                            refine ⟨fun hc220 => hX68 ?_, fun hc220 => hY68 ?_⟩
                                            · clear hX68 hY68 X68 Y68
                                              refine SX.region_d [some 221, some 222, some 18] rfl (fun ops hops => ?_)
                                              unfold Dsts at hops
                                              simp (maxSteps:=1000000)(dsimp:=false)(disch:=omega) only [go_sem, Φa, hP, h40_3, h40_9, h40_11, h40_18, hops]
                                              repeat' ((first | refine And.intro (by omega) ?_ | fail); try (with_reducible refine stI ?_); try simp (maxSteps:=1000000)(dsimp:=false)(disch:=omega) only [go_sem, Φa, hP, h40_3, h40_9, h40_11, h40_18, hops])
                                              refine hK66 () _ (some (b8, .cells ((stepG g f d).1.cells (.slice A0st (stepG g f d).1.st.length c0st) (.slice A0pg (stepG g f d).1.pg.length c0pg) (.slice A0mm (stepG g f d).1.mm.length c0mm)).toArray 29 (0, 0)) :: n1 :: n2 :: n3 :: some (b7, .cells (nextG g).1.cells.toArray 45 (0, 0)) :: some (b2, .cells d.cells.toArray 50 (0, 0)) :: some (b1, .cells (f.cells (.slice Af f.bs.length cf)).toArray 40 (0, 0)) :: some (b0, .cells (g.cells (.slice As g.st.length cs) (.slice Ap g.pg.length cp) (.slice Am g.mm.length cm)).toArray 29 (0, 0)) :: L) _ (by first | exact Less.refl _ | exact Less.drop _ _ | exact Less.drops (Less.drop _ _) | exact Less.drops (Less.drops (Less.drop _ _)) | exact Less.drops (Less.drops (Less.drops (Less.drop _ _))) | exact Less.drops (Less.drops (Less.drops (Less.drops (Less.drop _ _)))) | (simp (disch := omega) only [e1, e2]; exact Less.refl _)) ?_
                                              try dsimp only
                                              refine ⟨?_, ?_, ?_, ?_, ?_, ?_⟩
                                              · simp (maxSteps:=1000000)(dsimp:=false)(disch:=omega) only [go_sem, Φa, hP, h40_3, h40_9, h40_11, h40_18]
                                                first | done | (refine congrArg (Value.int .i64) ?_; split at hstl <;> split at hstl <;> (try split) <;> omega)
                                              · simp (maxSteps:=1000000)(dsimp:=false)(disch:=omega) only [go_sem, Φa, hP, h40_3, h40_9, h40_11, h40_18]
                                              · simp (maxSteps:=1000000)(dsimp:=false)(disch:=omega) only [go_sem, Φa, hP, h40_3, h40_9, h40_11, h40_18]
                                              · simp (maxSteps:=1000000)(dsimp:=false)(disch:=omega) only [go_sem, Φa, hP, h40_3, h40_9, h40_11, h40_18]
                                              · rfl
                                              · trivial
                                            · clear hX68 hY68 X68 Y68
                                              refine SX.skip ?_
                                              try simp only [andThen_normal, andThen_ret, andThen_exit, inBlk_normal, inBlk_ret, inBlk_exit, Φd, if_true, if_false, ↓reduceIte]
                                              refine hK66 () _ (some (b8, .cells ((stepG g f d).1.cells (.slice A0st (stepG g f d).1.st.length c0st) (.slice A0pg (stepG g f d).1.pg.length c0pg) (.slice A0mm (stepG g f d).1.mm.length c0mm)).toArray 29 (0, 0)) :: n1 :: n2 :: n3 :: some (b7, .cells (nextG g).1.cells.toArray 45 (0, 0)) :: some (b2, .cells d.cells.toArray 50 (0, 0)) :: some (b1, .cells (f.cells (.slice Af f.bs.length cf)).toArray 40 (0, 0)) :: some (b0, .cells (g.cells (.slice As g.st.length cs) (.slice Ap g.pg.length cp) (.slice Am g.mm.length cm)).toArray 29 (0, 0)) :: L) _ (by first | exact Less.refl _ | exact Less.drop _ _ | exact Less.drops (Less.drop _ _) | exact Less.drops (Less.drops (Less.drop _ _)) | exact Less.drops (Less.drops (Less.drops (Less.drop _ _))) | exact Less.drops (Less.drops (Less.drops (Less.drops (Less.drop _ _)))) | (simp (disch := omega) only [e1, e2]; exact Less.refl _)) ?_
                                              try dsimp only
                                              refine ⟨?_, ?_, ?_, ?_, ?_, ?_⟩
                                              · simp (maxSteps:=1000000)(dsimp:=false)(disch:=omega) only [go_sem, Φa, hP, h40_3, h40_9, h40_11, h40_18]
                                                first | done | (refine congrArg (Value.int .i64) ?_; split at hstl <;> split at hstl <;> (try split) <;> omega)
                                              · simp (maxSteps:=1000000)(dsimp:=false)(disch:=omega) only [go_sem, Φa, hP, h40_3, h40_9, h40_11, h40_18]
                                              · simp (maxSteps:=1000000)(dsimp:=false)(disch:=omega) only [go_sem, Φa, hP, h40_3, h40_9, h40_11, h40_18]
                                              · simp (maxSteps:=1000000)(dsimp:=false)(disch:=omega) only [go_sem, Φa, hP, h40_3, h40_9, h40_11, h40_18]
                                              · rfl
                                              · trivial
                                          · intro ss T41 L41 hI
                                            simp only [h40_3, h40_9, h40_11] at hI 
                                            obtain ⟨h41_18, h41_3, h41_9, h41_11, hL41, hinv⟩ := hI
                                            replace hL41 := hL41.symm
                                            subst hL41
                                            clear h40_3 h40_9 h40_11 h40_18 T40
                                            refine SX.seq_k fun K69 hK69 => ?_
                                            refine SX.seq_k fun K70 hK70 => ?_
                                            refine SX.region_d [some 223, some 224, some 225, some 226, some 227] rfl (fun ops hops => ?_)
                                            unfold Dsts at hops
                                            simp (maxSteps:=1000000)(dsimp:=false)(disch:=omega) only [go_sem, Φa, hP, h41_18, h41_3, h41_9, h41_11, hops]
                                            refine ⟨_, Cell.at 0 rfl (show (GM.cells _ _ _ _)[18]? = _ from rfl), ?_⟩
                                            try with_reducible refine stI ?_
                                            try simp (maxSteps:=1000000)(dsimp:=false)(disch:=omega) only [go_sem, Φa, hP, h41_18, h41_3, h41_9, h41_11, hops]
                                            refine hK70 _ _ ?_
                                            try clear hK70 K70
                                            refine SX.cond_k fun X71 Y71 hX71 hY71 => ?_
                                            simp (maxSteps:=1000000)(dsimp:=false)(disch:=omega) only [go_sem, Φa, hP, h41_18, h41_3, h41_9, h41_11, condVC]
                                            refine hY71 ?_
                                            clear hX71 hY71 X71 Y71
                                            refine SX.skip ?_
                                            try simp only [andThen_normal, andThen_ret, andThen_exit, inBlk_normal, inBlk_ret, inBlk_exit, Φd, if_true, if_false, ↓reduceIte]
                                            refine hK69 _ _ ?_
                                            try clear hK69 K69
                                            refine SX.seq_k fun K72 hK72 => ?_
                                            refine SX.seq_k fun K73 hK73 => ?_
                                            refine SX.region_d [some 19] rfl (fun ops hops => ?_)
                                            unfold Dsts at hops
                                            simp (maxSteps:=1000000)(dsimp:=false)(disch:=omega) only [go_sem, Φa, hP, h41_18, h41_3, h41_9, h41_11, hops]
                                            refine hK73 _ _ ?_
                                            try clear hK73 K73
                                            refine SX.block ?_
                                            refine SX.live [3, 9, 11, 18, 19] (fun T42 hT42 => ?_)
                                            simp only [Φb, Φc, go_sem, Φa, hP, h41_18, h41_3, h41_9, h41_11] at hT42
                                            obtain ⟨h42_3, h42_9, h42_11, h42_18, h42_19⟩ := hT42
                                            clear h41_18 h41_3 h41_9 h41_11 T41
                                            refine SX.loop_k (fun (ss : (Nat)) T L' => (fun (k : Nat) => T 19 = .int .i64 (k : Int) ∧ T 3 = T42 3 ∧ T 9 = T42 9 ∧ T 11 = T42 11 ∧ T 18 = T42 18 ∧ L' = some (b8, .cells ((stepG g f d).1.cells (.slice A0st (stepG g f d).1.st.length c0st) (.slice A0pg (stepG g f d).1.pg.length c0pg) (.slice A0mm (stepG g f d).1.mm.length c0mm)).toArray 29 (0, 0)) :: n1 :: n2 :: n3 :: some (b7, .cells (nextG g).1.cells.toArray 45 (0, 0)) :: some (b2, .cells d.cells.toArray 50 (0, 0)) :: some (b1, .cells (f.cells (.slice Af f.bs.length cf)).toArray 40 (0, 0)) :: some (b0, .cells (g.cells (.slice As g.st.length cs) (.slice Ap g.pg.length cp) (.slice Am g.mm.length cm)).toArray 29 (0, 0)) :: L ∧ (k ≤ 12)) (ss)) (fun (ss : (Nat)) => (fun (k : Nat) => 13 - k) (ss)) 0 ?_ ?_
                                            · try dsimp only
                                              refine ⟨?_, ?_, ?_, ?_, ?_, ?_, ?_⟩
                                              · first | exact h42_19 | (rw [h42_19]; rfl) | (rw [h42_19]; simp; done)
                                              · rfl
                                              · rfl
                                              · rfl
                                              · rfl
                                              · rfl
                                              · exact Nat.zero_le _
                                            · intro k T43 L43 hI K74 hK74
                                              try dsimp only at hI hK74
                                              simp only [h42_3, h42_9, h42_11, h42_18] at hI hK74
                                              obtain ⟨h43_19, h43_3, h43_9, h43_11, h43_18, hL43, hk⟩ := hI
                                              replace hL43 := hL43.symm
                                              subst hL43
                                              clear h42_3 h42_9 h42_11 h42_18 h42_19 T42
                                              refine SX.seq_k fun K75 hK75 => ?_
                                              refine SX.seq_k fun K76 hK76 => ?_
                                              refine SX.region_xd [some 228, some 229, some 230, some 231, some 232, some 233, some 234, some 235, some 236, some 237] rfl (fun ops hops => ?_)
                                              unfold Dsts at hops
                                              refine RX.live [3, 9, 11, 18, 19] (fun T44 hT44 => ?_)
                                              simp only [Φb, Φc, go_sem, Φa, hP, h43_19, h43_3, h43_9, h43_11, h43_18] at hT44
                                              obtain ⟨h44_3, h44_9, h44_11, h44_18, h44_19⟩ := hT44
                                              clear h43_19 h43_3 h43_9 h43_11 h43_18 T43
                                              refine RX.join 10 (fun (ss : Unit) T L' => T 237 = .bool (decide (k < (stepG g f d).1.st.length) && decide (k < g.st.length)) ∧ T 3 = T44 3 ∧ T 9 = T44 9 ∧ T 11 = T44 11 ∧ T 18 = T44 18 ∧ T 19 = T44 19 ∧ L' = some (b8, .cells ((stepG g f d).1.cells (.slice A0st (stepG g f d).1.st.length c0st) (.slice A0pg (stepG g f d).1.pg.length c0pg) (.slice A0mm (stepG g f d).1.mm.length c0mm)).toArray 29 (0, 0)) :: n1 :: n2 :: n3 :: some (b7, .cells (nextG g).1.cells.toArray 45 (0, 0)) :: some (b2, .cells d.cells.toArray 50 (0, 0)) :: some (b1, .cells (f.cells (.slice Af f.bs.length cf)).toArray 40 (0, 0)) :: some (b0, .cells (g.cells (.slice As g.st.length cs) (.slice Ap g.pg.length cp) (.slice Am g.mm.length cm)).toArray 29 (0, 0)) :: L ∧ (True)) (fun K77 hK77 => ?_) ?_
                                              · simp only [h44_3, h44_9, h44_11, h44_18, h44_19] at hK77
                                                simp (maxSteps:=1000000)(dsimp:=false)(disch:=omega) only [go_sem, Φa, hP, h44_3, h44_9, h44_11, h44_18, h44_19, hops]
                                                repeat' (first | refine iteB (fun hg => ?_) (fun hg => ?_) | refine iteI (fun hg => ?_) (fun hg => ?_) | ((first | refine ⟨_, Cell.at 7 rfl (show (GM.cells _ _ _ _)[18]? = _ from rfl), ?_⟩ | refine And.intro (by omega) ?_ | refine ⟨_, Cell.at 0 rfl rfl, ?_⟩ | refine ⟨_, Cell.at 1 rfl rfl, ?_⟩ | refine ⟨_, Cell.at 2 rfl rfl, ?_⟩ | refine ⟨_, Cell.at 3 rfl rfl, ?_⟩ | refine ⟨_, Cell.at 4 rfl rfl, ?_⟩ | refine ⟨_, Cell.at 5 rfl rfl, ?_⟩ | refine ⟨_, Cell.at 6 rfl rfl, ?_⟩ | refine ⟨_, Cell.at 7 rfl rfl, ?_⟩ | fail); try (with_reducible refine stI ?_); try simp (maxSteps:=1000000)(dsimp:=false)(disch:=omega) only [go_sem, Φa, hP, h44_3, h44_9, h44_11, h44_18, h44_19, hops]) | fail)
                                                all_goals
                                                  refine hK77 () _ (some (b8, .cells ((stepG g f d).1.cells (.slice A0st (stepG g f d).1.st.length c0st) (.slice A0pg (stepG g f d).1.pg.length c0pg) (.slice A0mm (stepG g f d).1.mm.length c0mm)).toArray 29 (0, 0)) :: n1 :: n2 :: n3 :: some (b7, .cells (nextG g).1.cells.toArray 45 (0, 0)) :: some (b2, .cells d.cells.toArray 50 (0, 0)) :: some (b1, .cells (f.cells (.slice Af f.bs.length cf)).toArray 40 (0, 0)) :: some (b0, .cells (g.cells (.slice As g.st.length cs) (.slice Ap g.pg.length cp) (.slice Am g.mm.length cm)).toArray 29 (0, 0)) :: L) _ (by first | exact Less.refl _ | exact Less.drop _ _ | exact Less.drops (Less.drop _ _) | exact Less.drops (Less.drops (Less.drop _ _)) | exact Less.drops (Less.drops (Less.drops (Less.drop _ _))) | exact Less.drops (Less.drops (Less.drops (Less.drops (Less.drop _ _)))) | (simp (disch := omega) only [e1, e2]; exact Less.refl _)) ?_
                                                  try dsimp only
                                                  refine ⟨?_, ?_, ?_, ?_, ?_, ?_, ?_, ?_⟩
                                                  · simp (maxSteps:=1000000)(dsimp:=false)(disch:=omega) only [go_sem, Φa, hP, h44_3, h44_9, h44_11, h44_18, h44_19]
                                                    first | done | (refine congrArg Value.bool ?_; rw [Bool.eq_iff_iff]; simp only [Bool.or_eq_true,Bool.and_eq_true,Bool.not_eq_true',Bool.not_eq_false',decide_eq_true_eq,decide_eq_false_iff_not,Bool.true_eq_false,Bool.false_eq_true,true_iff,iff_true,false_iff,iff_false,ne_eq]; omega) | (refine congrArg Value.bool ?_; simp_all; first | done | omega)
                                                  · simp (maxSteps:=1000000)(dsimp:=false)(disch:=omega) only [go_sem, Φa, hP, h44_3, h44_9, h44_11, h44_18, h44_19]
                                                  · simp (maxSteps:=1000000)(dsimp:=false)(disch:=omega) only [go_sem, Φa, hP, h44_3, h44_9, h44_11, h44_18, h44_19]
                                                  · simp (maxSteps:=1000000)(dsimp:=false)(disch:=omega) only [go_sem, Φa, hP, h44_3, h44_9, h44_11, h44_18, h44_19]
                                                  · simp (maxSteps:=1000000)(dsimp:=false)(disch:=omega) only [go_sem, Φa, hP, h44_3, h44_9, h44_11, h44_18, h44_19]
                                                  · simp (maxSteps:=1000000)(dsimp:=false)(disch:=omega) only [go_sem, Φa, hP, h44_3, h44_9, h44_11, h44_18, h44_19]
                                                  · rfl
                                                  · trivial
                                              · intro ss T45 L45 hI
                                                simp only [h44_3, h44_9, h44_11, h44_18, h44_19] at hI 
                                                obtain ⟨h45_237, h45_3, h45_9, h45_11, h45_18, h45_19, hL45, hinv⟩ := hI
                                                replace hL45 := hL45.symm
                                                subst hL45
                                                clear h44_3 h44_9 h44_11 h44_18 h44_19 T44
                                                refine RX.done ?_
                                                simp (maxSteps:=1000000)(dsimp:=false)(disch:=omega) only [go_sem, Φa, hP, h45_237, h45_3, h45_9, h45_11, h45_18, h45_19, hops]
                                                refine hK76 _ _ ?_
                                                try clear hK76 K76
                                                refine SX.cond_k fun X78 Y78 hX78 hY78 => ?_
                                                simp (maxSteps:=1000000)(dsimp:=false)(disch:=omega) only [go_sem, Φa, hP, h45_237, h45_3, h45_9, h45_11, h45_18, h45_19, condVC]
                                                refine ⟨fun hc237 => hX78 ?_, fun hc237 => hY78 ?_⟩
                                                · clear hX78 hY78 X78 Y78
                                                  refine SX.skip ?_
                                                  try simp only [andThen_normal, andThen_ret, andThen_exit, inBlk_normal, inBlk_ret, inBlk_exit, Φd, if_true, if_false, ↓reduceIte]
                                                  refine hK75 _ _ ?_
                                                  try clear hK75 K75
                                                  refine SX.seq_k fun K79 hK79 => ?_
                                                  refine SX.block ?_
                                                  refine SX.seq_k fun K80 hK80 => ?_
                                                  have hkk : k < (stepG g f d).1.st.length ∧ k < g.st.length := by simpa using hc237
                                                  obtain ⟨a1, e1, hm1⟩ := sl_at (C := Cell Γ (some (b8, .cells ((stepG g f d).1.cells (.slice A0st (stepG g f d).1.st.length c0st) (.slice A0pg (stepG g f d).1.pg.length c0pg) (.slice A0mm (stepG g f d).1.mm.length c0mm)).toArray 29 (0, 0)) :: n1 :: n2 :: n3 :: some (b7, .cells (nextG g).1.cells.toArray 45 (0, 0)) :: some (b2, .cells d.cells.toArray 50 (0, 0)) :: some (b1, .cells (f.cells (.slice Af f.bs.length cf)).toArray 40 (0, 0)) :: some (b0, .cells (g.cells (.slice As g.st.length cs) (.slice Ap g.pg.length cp) (.slice Am g.mm.length cm)).toArray 29 (0, 0)) :: L)) (RowI.sl hr.st (i := 1) rfl)
                                                  obtain ⟨a2, e2, hm2⟩ := sl_at (C := Cell Γ (some (b8, .cells ((stepG g f d).1.cells (.slice A0st (stepG g f d).1.st.length c0st) (.slice A0pg (stepG g f d).1.pg.length c0pg) (.slice A0mm (stepG g f d).1.mm.length c0mm)).toArray 29 (0, 0)) :: n1 :: n2 :: n3 :: some (b7, .cells (nextG g).1.cells.toArray 45 (0, 0)) :: some (b2, .cells d.cells.toArray 50 (0, 0)) :: some (b1, .cells (f.cells (.slice Af f.bs.length cf)).toArray 40 (0, 0)) :: some (b0, .cells (g.cells (.slice As g.st.length cs) (.slice Ap g.pg.length cp) (.slice Am g.mm.length cm)).toArray 29 (0, 0)) :: L)) (SlI.any hs)
                                                  replace e1 := e1 (by omega)
                                                  replace e2 := e2 (by omega)
                                                  simp only [e1, e2] at hm1 hm2
                                                  have hsk := hT.st k hkk.1 hkk.2
                                                  have hkt : ((k : Int)).toNat = k := by omega
                                                  refine SX.quiet_d (hP ▸ T.mixed) (by kernel_rfl) [some 240, some 241, some 242, some 243, some 244, some 245, some 246, some 247, some 248, some 249, some 250] rfl (fun ops hops => ?_)
                                                  unfold Dsts at hops
                                                  simp (maxSteps:=1000000)(dsimp:=false)(disch:=omega) only [go_sem, Φa, hP, h45_237, h45_3, h45_9, h45_11, h45_18, h45_19, hops, e1, e2]
                                                  refine ⟨_, Cell.at 0 rfl (show (GM.cells _ _ _ _)[18]? = _ from rfl), ?_⟩
                                                  try with_reducible refine stI ?_
                                                  try simp (maxSteps:=1000000)(dsimp:=false)(disch:=omega) only [go_sem, Φa, hP, h45_237, h45_3, h45_9, h45_11, h45_18, h45_19, hops, e1, e2]
                                                  refine ⟨_, hm1 k (by omega), ?_⟩
                                                  try with_reducible refine stI ?_
                                                  try simp (maxSteps:=1000000)(dsimp:=false)(disch:=omega) only [go_sem, Φa, hP, h45_237, h45_3, h45_9, h45_11, h45_18, h45_19, hops, e1, e2]
                                                  refine ⟨_, Cell.at 7 rfl (show (GM.cells _ _ _ _)[18]? = _ from rfl), ?_⟩
                                                  try with_reducible refine stI ?_
                                                  try simp (maxSteps:=1000000)(dsimp:=false)(disch:=omega) only [go_sem, Φa, hP, h45_237, h45_3, h45_9, h45_11, h45_18, h45_19, hops, e1, e2]
                                                  refine ⟨_, hm2 k (by omega), ?_⟩
                                                  try with_reducible refine stI ?_
                                                  try simp (maxSteps:=1000000)(dsimp:=false)(disch:=omega) only [go_sem, Φa, hP, h45_237, h45_3, h45_9, h45_11, h45_18, h45_19, hops, e1, e2]
                                                  refine hK80 _ _ ?_
                                                  try clear hK80 K80
                                                  refine SX.live [3, 9, 11, 18, 19, 250] (fun T46 hT46 => ?_)
                                                  simp only [Φb, Φc, go_sem, Φa, hP, h45_237, h45_3, h45_9, h45_11, h45_18, h45_19] at hT46
                                                  obtain ⟨h46_3, h46_9, h46_11, h46_18, h46_19, h46_250⟩ := hT46
                                                  clear h45_237 h45_3 h45_9 h45_11 h45_18 h45_19 T45
                                                  refine SX.cond_k fun X81 Y81 hX81 hY81 => ?_
                                                  simp (maxSteps:=1000000)(dsimp:=false)(disch:=omega) only [go_sem, Φa, hP, h46_3, h46_9, h46_11, h46_18, h46_19, h46_250, condVC]
                                                  refine hY81 ?_
                                                  clear hX81 hY81 X81 Y81
                                                  refine SX.skip ?_
                                                  try simp only [andThen_normal, andThen_ret, andThen_exit, inBlk_normal, inBlk_ret, inBlk_exit, Φd, if_true, if_false, ↓reduceIte]
                                                  refine hK79 _ _ ?_
                                                  try clear hK79 K79
                                                  refine SX.region_d [some 238, some 239, some 19] rfl (fun ops hops => ?_)
                                                  unfold Dsts at hops
                                                  simp (maxSteps:=1000000)(dsimp:=false)(disch:=omega) only [go_sem, Φa, hP, h46_3, h46_9, h46_11, h46_18, h46_19, h46_250, hops]
                                                  repeat' ((first | refine And.intro (by omega) ?_ | fail); try (with_reducible refine stI ?_); try simp (maxSteps:=1000000)(dsimp:=false)(disch:=omega) only [go_sem, Φa, hP, h46_3, h46_9, h46_11, h46_18, h46_19, h46_250, hops])
                                                  refine hK74 (k + 1) _ (some (b8, .cells ((stepG g f d).1.cells (.slice A0st (stepG g f d).1.st.length c0st) (.slice A0pg (stepG g f d).1.pg.length c0pg) (.slice A0mm (stepG g f d).1.mm.length c0mm)).toArray 29 (0, 0)) :: n1 :: n2 :: n3 :: some (b7, .cells (nextG g).1.cells.toArray 45 (0, 0)) :: some (b2, .cells d.cells.toArray 50 (0, 0)) :: some (b1, .cells (f.cells (.slice Af f.bs.length cf)).toArray 40 (0, 0)) :: some (b0, .cells (g.cells (.slice As g.st.length cs) (.slice Ap g.pg.length cp) (.slice Am g.mm.length cm)).toArray 29 (0, 0)) :: L) _ (by simp (disch := omega) only [e1, e2]; exact Less.refl _) ?_ ?_
                                                  · try dsimp only
                                                    refine ⟨?_, ?_, ?_, ?_, ?_, ?_, ?_⟩
                                                    · simp (maxSteps:=1000000)(dsimp:=false)(disch:=omega) only [go_sem, Φa, hP, h46_3, h46_9, h46_11, h46_18, h46_19, h46_250]
                                                      first | done | rfl | skip
                                                    · simp (maxSteps:=1000000)(dsimp:=false)(disch:=omega) only [go_sem, Φa, hP, h46_3, h46_9, h46_11, h46_18, h46_19, h46_250]
                                                    · simp (maxSteps:=1000000)(dsimp:=false)(disch:=omega) only [go_sem, Φa, hP, h46_3, h46_9, h46_11, h46_18, h46_19, h46_250]
                                                    · simp (maxSteps:=1000000)(dsimp:=false)(disch:=omega) only [go_sem, Φa, hP, h46_3, h46_9, h46_11, h46_18, h46_19, h46_250]
                                                    · simp (maxSteps:=1000000)(dsimp:=false)(disch:=omega) only [go_sem, Φa, hP, h46_3, h46_9, h46_11, h46_18, h46_19, h46_250]
                                                    · rfl
                                                    · omega
                                                  · (try dsimp only); omega
                                                · clear hX78 hY78 X78 Y78
                                                  refine SX.exit ?_
                                                  try simp only [andThen_normal, andThen_ret, andThen_exit, inBlk_normal, inBlk_ret, inBlk_exit, Φd, if_true, if_false, ↓reduceIte]
                                                  refine hK72 _ _ ?_
                                                  try clear hK72 K72
                                                  refine SX.seq_k fun K82 hK82 => ?_
                                                  refine SX.region_d [some 251, some 252, some 253, some 254, some 255, some 20] rfl (fun ops hops => ?_)
                                                  unfold Dsts at hops
                                                  simp (maxSteps:=1000000)(dsimp:=false)(disch:=omega) only [go_sem, Φa, hP, h45_237, h45_3, h45_9, h45_11, h45_18, h45_19, hops]
                                                  refine ⟨_, Cell.at 7 rfl rfl, ?_⟩
                                                  try with_reducible refine stI ?_
                                                  try simp (maxSteps:=1000000)(dsimp:=false)(disch:=omega) only [go_sem, Φa, hP, h45_237, h45_3, h45_9, h45_11, h45_18, h45_19, hops]
                                                  refine ⟨_, Cell.at 7 rfl rfl, ?_⟩
                                                  try with_reducible refine stI ?_
                                                  try simp (maxSteps:=1000000)(dsimp:=false)(disch:=omega) only [go_sem, Φa, hP, h45_237, h45_3, h45_9, h45_11, h45_18, h45_19, hops]
                                                  refine ⟨_, Cell.at 7 rfl rfl, ?_⟩
                                                  try with_reducible refine stI ?_
                                                  try simp (maxSteps:=1000000)(dsimp:=false)(disch:=omega) only [go_sem, Φa, hP, h45_237, h45_3, h45_9, h45_11, h45_18, h45_19, hops]
                                                  refine ⟨_, Cell.at 7 rfl rfl, ?_⟩
                                                  try with_reducible refine stI ?_
                                                  try simp (maxSteps:=1000000)(dsimp:=false)(disch:=omega) only [go_sem, Φa, hP, h45_237, h45_3, h45_9, h45_11, h45_18, h45_19, hops]
                                                  refine ⟨_, Cell.at 7 rfl rfl, ?_⟩
                                                  try with_reducible refine stI ?_
                                                  try simp (maxSteps:=1000000)(dsimp:=false)(disch:=omega) only [go_sem, Φa, hP, h45_237, h45_3, h45_9, h45_11, h45_18, h45_19, hops]
                                                  refine ⟨_, Cell.at 7 rfl rfl, ?_⟩
                                                  try with_reducible refine stI ?_
                                                  try simp (maxSteps:=1000000)(dsimp:=false)(disch:=omega) only [go_sem, Φa, hP, h45_237, h45_3, h45_9, h45_11, h45_18, h45_19, hops]
                                                  refine ⟨_, Cell.at 7 rfl rfl, ?_⟩
                                                  try with_reducible refine stI ?_
                                                  try simp (maxSteps:=1000000)(dsimp:=false)(disch:=omega) only [go_sem, Φa, hP, h45_237, h45_3, h45_9, h45_11, h45_18, h45_19, hops]
                                                  refine ⟨_, Cell.at 7 rfl rfl, ?_⟩
                                                  try with_reducible refine stI ?_
                                                  try simp (maxSteps:=1000000)(dsimp:=false)(disch:=omega) only [go_sem, Φa, hP, h45_237, h45_3, h45_9, h45_11, h45_18, h45_19, hops]
                                                  refine ⟨_, Cell.at 7 rfl rfl, ?_⟩
                                                  try with_reducible refine stI ?_
                                                  try simp (maxSteps:=1000000)(dsimp:=false)(disch:=omega) only [go_sem, Φa, hP, h45_237, h45_3, h45_9, h45_11, h45_18, h45_19, hops]
                                                  refine ⟨_, Cell.at 7 rfl rfl, ?_⟩
                                                  try with_reducible refine stI ?_
                                                  try simp (maxSteps:=1000000)(dsimp:=false)(disch:=omega) only [go_sem, Φa, hP, h45_237, h45_3, h45_9, h45_11, h45_18, h45_19, hops]
                                                  refine ⟨_, Cell.at 7 rfl rfl, ?_⟩
                                                  try with_reducible refine stI ?_
                                                  try simp (maxSteps:=1000000)(dsimp:=false)(disch:=omega) only [go_sem, Φa, hP, h45_237, h45_3, h45_9, h45_11, h45_18, h45_19, hops]
                                                  refine ⟨_, Cell.at 7 rfl rfl, ?_⟩
                                                  try with_reducible refine stI ?_
                                                  try simp (maxSteps:=1000000)(dsimp:=false)(disch:=omega) only [go_sem, Φa, hP, h45_237, h45_3, h45_9, h45_11, h45_18, h45_19, hops]
                                                  refine ⟨_, Cell.at 7 rfl rfl, ?_⟩
                                                  try with_reducible refine stI ?_
                                                  try simp (maxSteps:=1000000)(dsimp:=false)(disch:=omega) only [go_sem, Φa, hP, h45_237, h45_3, h45_9, h45_11, h45_18, h45_19, hops]
                                                  refine ⟨_, Cell.at 7 rfl rfl, ?_⟩
                                                  try with_reducible refine stI ?_
                                                  try simp (maxSteps:=1000000)(dsimp:=false)(disch:=omega) only [go_sem, Φa, hP, h45_237, h45_3, h45_9, h45_11, h45_18, h45_19, hops]
                                                  refine ⟨_, Cell.at 7 rfl rfl, ?_⟩
                                                  try with_reducible refine stI ?_
                                                  try simp (maxSteps:=1000000)(dsimp:=false)(disch:=omega) only [go_sem, Φa, hP, h45_237, h45_3, h45_9, h45_11, h45_18, h45_19, hops]
                                                  refine ⟨_, Cell.at 7 rfl rfl, ?_⟩
                                                  try with_reducible refine stI ?_
                                                  try simp (maxSteps:=1000000)(dsimp:=false)(disch:=omega) only [go_sem, Φa, hP, h45_237, h45_3, h45_9, h45_11, h45_18, h45_19, hops]
                                                  refine ⟨_, Cell.at 7 rfl rfl, ?_⟩
                                                  try with_reducible refine stI ?_
                                                  try simp (maxSteps:=1000000)(dsimp:=false)(disch:=omega) only [go_sem, Φa, hP, h45_237, h45_3, h45_9, h45_11, h45_18, h45_19, hops]
                                                  refine ⟨_, Cell.at 7 rfl rfl, ?_⟩
                                                  try with_reducible refine stI ?_
                                                  try simp (maxSteps:=1000000)(dsimp:=false)(disch:=omega) only [go_sem, Φa, hP, h45_237, h45_3, h45_9, h45_11, h45_18, h45_19, hops]
                                                  refine ⟨_, Cell.at 7 rfl rfl, ?_⟩
                                                  try with_reducible refine stI ?_
                                                  try simp (maxSteps:=1000000)(dsimp:=false)(disch:=omega) only [go_sem, Φa, hP, h45_237, h45_3, h45_9, h45_11, h45_18, h45_19, hops]
                                                  refine ⟨_, Cell.at 7 rfl rfl, ?_⟩
                                                  try with_reducible refine stI ?_
                                                  try simp (maxSteps:=1000000)(dsimp:=false)(disch:=omega) only [go_sem, Φa, hP, h45_237, h45_3, h45_9, h45_11, h45_18, h45_19, hops]
                                                  refine ⟨_, Cell.at 7 rfl rfl, ?_⟩
                                                  try with_reducible refine stI ?_
                                                  try simp (maxSteps:=1000000)(dsimp:=false)(disch:=omega) only [go_sem, Φa, hP, h45_237, h45_3, h45_9, h45_11, h45_18, h45_19, hops]
                                                  refine ⟨_, Cell.at 7 rfl rfl, ?_⟩
                                                  try with_reducible refine stI ?_
                                                  try simp (maxSteps:=1000000)(dsimp:=false)(disch:=omega) only [go_sem, Φa, hP, h45_237, h45_3, h45_9, h45_11, h45_18, h45_19, hops]
                                                  refine ⟨_, Cell.at 7 rfl rfl, ?_⟩
                                                  try with_reducible refine stI ?_
                                                  try simp (maxSteps:=1000000)(dsimp:=false)(disch:=omega) only [go_sem, Φa, hP, h45_237, h45_3, h45_9, h45_11, h45_18, h45_19, hops]
                                                  refine ⟨_, Cell.at 4 rfl rfl, ?_⟩
                                                  try with_reducible refine stI ?_
                                                  try simp (maxSteps:=1000000)(dsimp:=false)(disch:=omega) only [go_sem, Φa, hP, h45_237, h45_3, h45_9, h45_11, h45_18, h45_19, hops]
                                                  refine ⟨_, Cell.at 4 rfl rfl, ?_⟩
                                                  try with_reducible refine stI ?_
                                                  try simp (maxSteps:=1000000)(dsimp:=false)(disch:=omega) only [go_sem, Φa, hP, h45_237, h45_3, h45_9, h45_11, h45_18, h45_19, hops]
                                                  refine ⟨_, Cell.at 4 rfl rfl, ?_⟩
                                                  try with_reducible refine stI ?_
                                                  try simp (maxSteps:=1000000)(dsimp:=false)(disch:=omega) only [go_sem, Φa, hP, h45_237, h45_3, h45_9, h45_11, h45_18, h45_19, hops]
                                                  refine ⟨_, Cell.at 4 rfl rfl, ?_⟩
                                                  try with_reducible refine stI ?_
                                                  try simp (maxSteps:=1000000)(dsimp:=false)(disch:=omega) only [go_sem, Φa, hP, h45_237, h45_3, h45_9, h45_11, h45_18, h45_19, hops]
                                                  refine ⟨_, Cell.at 4 rfl rfl, ?_⟩
                                                  try with_reducible refine stI ?_
                                                  try simp (maxSteps:=1000000)(dsimp:=false)(disch:=omega) only [go_sem, Φa, hP, h45_237, h45_3, h45_9, h45_11, h45_18, h45_19, hops]
                                                  refine ⟨_, Cell.at 4 rfl rfl, ?_⟩
                                                  try with_reducible refine stI ?_
                                                  try simp (maxSteps:=1000000)(dsimp:=false)(disch:=omega) only [go_sem, Φa, hP, h45_237, h45_3, h45_9, h45_11, h45_18, h45_19, hops]
                                                  refine ⟨_, Cell.at 0 rfl (show (GM.cells _ _ _ _)[17]? = _ from rfl), ?_⟩
                                                  try with_reducible refine stI ?_
                                                  try simp (maxSteps:=1000000)(dsimp:=false)(disch:=omega) only [go_sem, Φa, hP, h45_237, h45_3, h45_9, h45_11, h45_18, h45_19, hops]
                                                  first | (refine SCall.mono (went_spec (g := g) (o := (nextG g).1) (pc := (stepG g f d).1.PC) hP hg hoo (by omega) (SlI.any hs) (SlI.any hp) (SlI.any hm)) ?_; rintro v_ L_ ⟨hv_, hL_⟩; rw [hv_, hL_]; clear hv_ hL_ v_ L_) | refine ⟨_, went_spec (g := g) (o := (nextG g).1) (pc := (stepG g f d).1.PC) hP hg hoo (by omega) (SlI.any hs) (SlI.any hp) (SlI.any hm), ?_⟩ | refine ⟨_, fun L0 hl0 => went_spec (g := g) (o := (nextG g).1) (pc := (stepG g f d).1.PC) hP hg hoo (by omega) (SlI.any hs) (SlI.any hp) (SlI.any hm), ?_⟩
                                                  rw [hT.pc]
                                                  try with_reducible refine stI ?_
                                                  try simp (maxSteps:=1000000)(dsimp:=false)(disch:=omega) only [go_sem, Φa, hP, h45_237, h45_3, h45_9, h45_11, h45_18, h45_19, hops]
                                                  refine hK82 _ _ ?_
                                                  try clear hK82 K82
                                                  refine SX.seq_k fun K83 hK83 => ?_
                                                  refine SX.region_d [some 256, some 6] rfl (fun ops hops => ?_)
                                                  unfold Dsts at hops
                                                  simp (maxSteps:=1000000)(dsimp:=false)(disch:=omega) only [go_sem, Φa, hP, h45_237, h45_3, h45_9, h45_11, h45_18, h45_19, hops]
                                                  refine hK83 _ _ ?_
                                                  try clear hK83 K83
                                                  refine SX.ret ?_
                                                  simp only [andThen_normal, andThen_ret, andThen_exit, inBlk_normal, inBlk_ret, inBlk_exit, Φd, if_true, if_false, ↓reduceIte, retQ_ret]
                                                  try simp only [res0, res1, res2, res3, stK_e, go_sem, Φa, hP, h45_237, h45_3, h45_9, h45_11, h45_18, h45_19]
                                                  exact ⟨_, _, Less.tail [_, _, _, _, _, _, _, _] _, rfl, rfl, rfl⟩

end Go.Proofs.Ytgioegdjeodpiaa
