/- A part of the proof of ToneCountsSaid. -/
import Derived.Test.YtkeefmneldflaaaCW6
set_option linter.unusedVariables false
set_option linter.unusedSimpArgs false
namespace Go.Proofs.Ytkeefmneldflaaa
open Go.RowKit Go.SX
/-! The plain laws of ToneCounts. -/
def endC : Nat → List Rw → Nat
  | i, [] => i
  | _, x :: xs => endC x.2.1 xs
theorem endC_ge : ∀ (xs : List Rw) (i : Nat) (q : Bool), Chain i q xs → i ≤ endC i xs
  | [], _, _, _ => Nat.le_refl _
  | x :: xs, i, q, ⟨h1, h2, h3, h4, h5⟩ => by have := endC_ge xs x.2.1 _ h5; rw [endC]; omega
theorem flat_length : ∀ (xs : List Rw) (i : Nat) (q : Bool), Chain i q xs → i + (flat xs).length = endC i xs
  | [], i, _, _ => by simp [flat, endC]
  | x :: xs, i, q, ⟨h1, h2, h3, h4, h5⟩ => by
    have := flat_length xs x.2.1 _ h5
    rw [endC, ← this, flat, List.flatMap_cons, List.length_append, List.length_replicate, ← flat]; omega
/-- Beeps in a chain: where the first may begin, where the last ends. -/
theorem beeps_lo : ∀ (xs : List Rw) (i : Nat) (q : Bool), Chain i q xs → ∀ b ∈ beepF xs, (i : Int) ≤ b.1 ∧ b.1 < b.2 ∧ b.2 ≤ endC i xs ∧ (q = false → (i : Int) < b.1)
  | [], _, _, _, b, hb => by simp [beepF] at hb
  | x :: xs, i, q, ⟨h1, h2, h3, h4, h5⟩, b, hb => by
    rw [beepF_cons] at hb
    have he := endC_ge xs x.2.1 _ h5
    rw [endC]
    rcases List.mem_append.1 hb with hb | hb
    · split at hb
      · simp at hb; subst hb
        refine ⟨by dsimp only; omega, by dsimp only; omega, by dsimp only; omega, fun hq => ?_⟩
        rename_i hx; rw [h4, hq] at hx; cases hx
      · cases hb
    · have := beeps_lo xs x.2.1 _ h5 b hb
      exact ⟨by omega, this.2.1, this.2.2.1, fun _ => by omega⟩
/-- They rise and do not touch. -/
theorem beeps_rise : ∀ (xs : List Rw) (i : Nat) (q : Bool), Chain i q xs → ∀ k b c, (beepF xs)[k]? = some b → (beepF xs)[k + 1]? = some c → b.2 < c.1
  | [], _, _, _, k, b, c, hb, _ => by simp [beepF] at hb
  | x :: xs, i, q, ⟨h1, h2, h3, h4, h5⟩, k, b, c, hb, hc => by
    rw [beepF_cons] at hb hc
    cases hx : x.2.2
    · rw [hx, if_neg (by decide), List.nil_append] at hb hc
      exact beeps_rise xs x.2.1 _ h5 k b c hb hc
    · rw [hx, if_pos rfl, List.cons_append, List.nil_append] at hb hc
      cases k with
      | zero =>
        simp at hb hc; subst hb
        have := beeps_lo xs x.2.1 _ h5 c (List.mem_of_getElem? (i := 0) (by simpa using hc))
        exact this.2.2.2 (by rw [← h4, hx]; rfl)
      | succ k => exact beeps_rise xs x.2.1 _ h5 k b c (by simpa using hb) (by simpa using hc)
theorem getD_l {a b : List Bool} {j : Nat} (h : j < a.length) : (a ++ b).getD j false = a.getD j false := by rw [List.getD_eq_getElem?_getD, List.getD_eq_getElem?_getD, List.getElem?_append_left h]
theorem getD_r {a b : List Bool} {j : Nat} (h : a.length ≤ j) : (a ++ b).getD j false = b.getD (j - a.length) false := by rw [List.getD_eq_getElem?_getD, List.getD_eq_getElem?_getD, List.getElem?_append_right h]
/-- A record is high just if it lies in a beep. -/
theorem beeps_in : ∀ (xs : List Rw) (i : Nat) (q : Bool), Chain i q xs → ∀ j, i ≤ j → j < endC i xs → ((flat xs).getD (j - i) false = true ↔ ∃ b ∈ beepF xs, b.1 ≤ (j : Int) ∧ (j : Int) < b.2)
  | [], i, _, _, j, h1, h2 => by rw [endC] at h2; omega
  | x :: xs, i, q, ⟨h1, h2, h3, h4, h5⟩, j, hj, hje => by
    rw [endC] at hje
    rw [flat, List.flatMap_cons, ← flat, beepF_cons]
    have hlo := beeps_lo xs x.2.1 _ h5
    by_cases hjx : j < x.2.1
    · rw [getD_l (by rw [List.length_replicate]; omega), List.getD_eq_getElem?_getD, List.getElem?_replicate, if_pos (by omega), Option.getD_some]
      constructor
      · intro hq
        exact ⟨((x.1 : Int), (x.2.1 : Int)), List.mem_append_left _ (by rw [if_pos hq]; simp), by dsimp only; omega, by dsimp only; omega⟩
      · rintro ⟨b, hb, hb1, hb2⟩
        rcases List.mem_append.1 hb with hb | hb
        · split at hb
          · assumption
          · cases hb
        · have := hlo b hb; omega
    · rw [getD_r (by rw [List.length_replicate]; omega), List.length_replicate, show j - i - (x.2.1 - x.1) = j - x.2.1 by omega, beeps_in xs x.2.1 _ h5 j (by omega) hje]
      constructor
      · rintro ⟨b, hb, hb12⟩; exact ⟨b, List.mem_append_right _ hb, hb12⟩
      · rintro ⟨b, hb, hb1, hb2⟩
        rcases List.mem_append.1 hb with hb | hb
        · split at hb
          · simp at hb; subst hb; dsimp only at hb2; omega
          · cases hb
        · exact ⟨b, hb, hb1, hb2⟩
/-- The waves are the beeps' lengths and what lies between them. -/
def wOf (N : Nat) : List B2 → List B2
  | [] => []
  | [b] => [(b.2 - b.1, (N : Int) - b.2)]
  | b :: c :: r => (b.2 - b.1, c.1 - b.2) :: wOf N (c :: r)
theorem wG_wOf : ∀ (xs : List Rw) (i : Nat), Chain i true xs → wG (xs.map wr) = wOf (endC i xs) (beepF xs)
  | [], _, _ => rfl
  | [x], i, ⟨h1, h2, h3, h4, _⟩ => by
    rw [beepF_cons, if_pos h4, List.map_cons, wr_eq (by omega) h3]
    simp only [List.map_nil, wG, beepF, List.foldl_nil, List.append_nil, wOf, endC]
    congr 2 <;> (try dsimp only) <;> omega
  | x :: y :: xs, i, ⟨h1, h2, h3, h4, g1, g2, g3, g4, g5⟩ => by
    have ih := wG_wOf xs y.2.1 (by simpa using g5)
    have hlo := beeps_lo xs y.2.1 true (by simpa using g5)
    have hx := wr_eq (x := x) (by omega) h3
    have hy := wr_eq (x := y) (by omega) g3
    rw [List.map_cons, List.map_cons, wG, ih, beepF_cons, if_pos h4, beepF_cons, if_neg (by rw [g4]; decide), List.nil_append, List.cons_append, List.nil_append, endC, endC, hx, hy]
    match xs, g5, hlo with
    | [], _, _ =>
      simp only [beepF, List.foldl_nil, wOf, endC]
      congr 2 <;> (try dsimp only) <;> omega
    | z :: zs, g5, hlo =>
      obtain ⟨k1, k2, k3, k4, k5⟩ := g5
      rw [beepF_cons, if_pos (by simpa using k4), List.cons_append, List.nil_append, wOf]
      congr 2 <;> (try dsimp only) <;> omega
def lowOf (N : Nat) (o : Option B2) (b : B2) : Int := match o with | some c => c.1 - b.2 | none => (N : Int) - b.2
theorem wOf_len (N : Nat) : ∀ (bs : List B2), (wOf N bs).length = bs.length
  | [] => rfl
  | [b] => rfl
  | b :: c :: r => by rw [wOf, List.length_cons, wOf_len N (c :: r)]; rfl
theorem wOf_at (N : Nat) : ∀ (bs : List B2) (k : Nat) (b : B2), bs[k]? = some b → (wOf N bs)[k]? = some (b.2 - b.1, lowOf N bs[k + 1]? b)
  | [], k, b, h => by simp at h
  | [x], k, b, h => by
    cases k with
    | zero => simp at h; subst h; rfl
    | succ k => simp at h
  | x :: c :: r, k, b, h => by
    cases k with
    | zero => simp at h; subst h; rfl
    | succ k =>
      have := wOf_at N (c :: r) k b (by simpa using h)
      rw [wOf, List.getElem?_cons_succ, this]; rfl
/-- All of it, for a trace. -/
structure Counts (qs : List Bool) (bs ws : List B2) (vs : List Int) : Prop where
  lo : ∀ b ∈ bs, 0 ≤ b.1 ∧ b.1 < b.2 ∧ b.2 ≤ qs.length
  rise : ∀ k b c, bs[k]? = some b → bs[k + 1]? = some c → b.2 < c.1
  hi : ∀ j, j < qs.length → (qs.getD j false = true ↔ ∃ b ∈ bs, b.1 ≤ (j : Int) ∧ (j : Int) < b.2)
  wl : ws.length = bs.length
  w : ∀ k b, bs[k]? = some b → ws[k]? = some (b.2 - b.1, lowOf qs.length bs[k + 1]? b)
  vnn : ∀ x ∈ vs, 0 ≤ x
  vpos : ∀ k x, 0 < k → vs[k]? = some x → x ≠ 0
  vsum : vs.sum = qs.length
  vne : 0 < qs.length ↔ 0 < vs.length
theorem lens_sum : ∀ (xs : List Rw) (i : Nat) (q : Bool), Chain i q xs → (i : Int) + (xs.map wr).sum = endC i xs ∧ ∀ x ∈ xs.map wr, 0 < x
  | [], i, _, _ => ⟨by simp [endC], fun x hx => by cases hx⟩
  | x :: xs, i, q, ⟨h1, h2, h3, h4, h5⟩ => by
    obtain ⟨s1, s2⟩ := lens_sum xs x.2.1 _ h5
    have hx := wr_eq (x := x) (by omega) h3
    refine ⟨?_, fun y hy => ?_⟩
    · rw [List.map_cons, List.sum_cons, endC, ← s1, hx]; omega
    · rw [List.map_cons] at hy
      rcases List.mem_cons.1 hy with rfl | hy
      · rw [hx]; omega
      · exact s2 y hy
theorem lev_facts : ∀ (xs : List Rw) (q : Bool), Chain 0 q xs → (∀ y ∈ levF xs, 0 ≤ y) ∧ (∀ (k : Nat) (y : Int), 0 < k → (levF xs)[k]? = some y → y ≠ 0) ∧ (levF xs).sum = endC 0 xs ∧ (0 < endC 0 xs ↔ 0 < (levF xs).length)
  | [], q, _ => ⟨fun y hy => by simp [levF] at hy, fun k y _ hy => by simp [levF] at hy, rfl, by simp [levF, endC]⟩
  | x :: xs, q, h1 => by
    obtain ⟨s1, s2⟩ := lens_sum _ 0 _ h1
    rw [levF_cons]
    refine ⟨fun y hy => ?_, fun k y hk hy => ?_, ?_, ?_⟩
    · rcases List.mem_append.1 hy with hy | hy
      · split at hy
        · simp at hy; omega
        · cases hy
      · have := s2 y hy; omega
    · have hmem : y ∈ (x :: xs).map wr := by
        cases hx : x.2.2
        · rw [hx, if_neg (by decide), List.nil_append] at hy; exact List.mem_of_getElem? hy
        · rw [hx, if_pos rfl, List.cons_append, List.nil_append] at hy
          obtain ⟨k', rfl⟩ : ∃ k', k = k' + 1 := ⟨k - 1, by omega⟩
          exact List.mem_of_getElem? (i := k') (by simpa using hy)
      have := s2 y hmem; omega
    · rw [List.sum_append, ← s1]
      split <;> simp
    · have hx : x.2.1 ≤ endC 0 (x :: xs) := by rw [endC]; exact endC_ge xs _ _ h1.2.2.2.2
      have := h1.2.1
      constructor
      · intro _; simp; omega
      · intro _; omega
theorem counts {qs : List Bool} (hm : qs.length < 2147483648) : Counts qs (beepF (rows qs)) (waveF (rows qs)) (levF (rows qs)) := by
  obtain ⟨h1, h2⟩ := rows_all hm
  have hN : qs.length = endC 0 (rows qs) := by rw [← flat_length _ 0 _ h1, ← h2]; omega
  have hw : waveF (rows qs) = wOf qs.length (beepF (rows qs)) := by
    rw [hN]
    generalize rows qs = xs at *
    match xs, h1 with
    | [], _ => rfl
    | x :: xs, h1 =>
      cases hb : qs.getD 0 false
      · rw [hb] at h1
        obtain ⟨c1, c2, c3, c4, c5⟩ := h1
        rw [waveF, List.foldl_cons, show waveStep [] x = [] by simp [waveStep, c4], wave_fold xs _ [] (by simpa using c5), List.nil_append, wG_wOf xs x.2.1 (by simpa using c5), beepF_cons, if_neg (by rw [c4]; decide), endC]
        rfl
      · rw [hb] at h1
        rw [waveF, wave_fold _ 0 [] h1, List.nil_append, wG_wOf _ 0 h1]
  have hl := beeps_lo _ 0 _ h1
  have lf := lev_facts _ _ h1
  refine ⟨fun b hb => ?_, beeps_rise _ 0 _ h1, fun j hj => ?_, by rw [hw, wOf_len], fun k b hb => by rw [hw, wOf_at _ _ _ _ hb], ?_, ?_, ?_, ?_⟩
  · have := hl b hb; rw [← hN] at this; exact ⟨by omega, this.2.1, this.2.2.1⟩
  · have := beeps_in _ 0 _ h1 j (Nat.zero_le _) (by omega)
    rw [← h2, Nat.sub_zero] at this
    exact this
  · exact lf.1
  · exact lf.2.1
  · rw [hN]; exact lf.2.2.1
  · rw [hN]; exact lf.2.2.2
end Go.Proofs.Ytkeefmneldflaaa
