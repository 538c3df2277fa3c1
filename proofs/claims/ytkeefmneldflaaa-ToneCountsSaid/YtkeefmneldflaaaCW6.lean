/- A part of the proof of ToneCountsSaid. -/
import Derived.Test.YtkeefmneldflaaaCW3
set_option linter.unusedVariables false
set_option linter.unusedSimpArgs false
namespace Go.Proofs.Ytkeefmneldflaaa
open Go.RowKit Go.SX
/-! The plain laws of tone: rows, levels, beeps and waves. -/
theorem stop_spec (qs : List Bool) (q : Bool) : ∀ f i, (∀ k, i ≤ k → k < stop qs q f i → qs.getD k false = q) ∧ (stop qs q f i < i + f → qs.getD (stop qs q f i) false ≠ q)
  | 0, i => ⟨fun k h1 h2 => by rw [stop] at h2; omega, fun h => by rw [stop] at h; omega⟩
  | f + 1, i => by
    obtain ⟨h1, h2⟩ := stop_spec qs q f (i + 1)
    rw [stop]
    by_cases h : qs.getD i false = q
    · rw [if_pos h]
      refine ⟨fun k hk hk2 => ?_, fun h3 => h2 (by omega)⟩
      by_cases e : k = i
      · rw [e]; exact h
      · exact h1 k (by omega) hk2
    · rw [if_neg h]
      exact ⟨fun k hk hk2 => by omega, fun _ => h⟩
def Chain : Nat → Bool → List Rw → Prop
  | _, _, [] => True
  | i, q, x :: xs => x.1 = i ∧ i < x.2.1 ∧ x.2.1 < 2147483648 ∧ x.2.2 = q ∧ Chain x.2.1 (!q) xs
def flat (xs : List Rw) : List Bool := xs.flatMap fun x => List.replicate (x.2.1 - x.1) x.2.2
theorem drop_run (qs : List Bool) (q : Bool) : ∀ (d i : Nat), i + d ≤ qs.length → (∀ k, i ≤ k → k < i + d → qs.getD k false = q) → qs.drop i = List.replicate d q ++ qs.drop (i + d)
  | 0, i, _, _ => by simp
  | d + 1, i, h, hk => by
    have h1 := hk i (Nat.le_refl _) (by omega)
    rw [List.getD_eq_getElem?_getD, List.getElem?_eq_getElem (by omega), Option.getD_some] at h1
    rw [List.drop_eq_getElem_cons (by omega), h1, drop_run qs q d (i + 1) (by omega) (fun k a b => hk k (by omega) (by omega)), List.replicate_succ, List.cons_append, show i + 1 + d = i + (d + 1) by omega]
theorem rows_chain (qs : List Bool) (hm : qs.length < 2147483648) : ∀ f i, qs.length - i ≤ f → i ≤ qs.length → Chain i (qs.getD i false) (rowsF qs f i) ∧ qs.drop i = flat (rowsF qs f i)
  | 0, i, h, hi => ⟨trivial, by rw [List.drop_of_length_le (by omega)]; rfl⟩
  | f + 1, i, h, hi => by
    rw [rowsF]
    by_cases hil : i < qs.length
    · rw [if_pos hil]
      have h1 := stopAt_ge qs (qs.getD i false) (i + 1)
      have h2 := stopAt_le (qs := qs) (q := qs.getD i false) (i := i + 1) (by omega)
      obtain ⟨s1, s2⟩ := stop_spec qs (qs.getD i false) (qs.length - (i + 1)) (i + 1)
      rw [← stopAt] at s1 s2
      obtain ⟨r1, r2⟩ := rows_chain qs hm f (stopAt qs (qs.getD i false) (i + 1)) (by omega) h2
      generalize stopAt qs (qs.getD i false) (i + 1) = E at *
      refine ⟨⟨rfl, by dsimp only; omega, by dsimp only; omega, rfl, ?_⟩, ?_⟩
      · dsimp only
        by_cases hE : E < qs.length
        · have := s2 (by omega)
          rw [show (!qs.getD i false) = qs.getD E false by cases h3 : qs.getD i false <;> cases h4 : qs.getD E false <;> simp_all]
          exact r1
        · have : rowsF qs f E = [] := by cases f with
            | zero => rfl
            | succ f => rw [rowsF, if_neg hE]
          rw [this]; trivial
      · rw [drop_run qs (qs.getD i false) (E - i) i (by omega) (fun k a b => by
          by_cases e : k = i
          · rw [e]
          · exact s1 k (by omega) (by omega)), show i + (E - i) = E by omega, r2]
        rfl
    · rw [if_neg hil]
      exact ⟨trivial, by rw [List.drop_of_length_le (by omega)]; rfl⟩
theorem rows_all {qs : List Bool} (hm : qs.length < 2147483648) : Chain 0 (qs.getD 0 false) (rows qs) ∧ qs = flat (rows qs) := by
  have := rows_chain qs hm qs.length 0 (by omega) (Nat.zero_le _)
  rw [rows, rowsAt, Nat.sub_zero]
  simpa using this
theorem wr_eq {x : Rw} (h1 : x.1 < x.2.1) (h2 : x.2.1 < 2147483648) : wr x = ((x.2.1 - x.1 : Nat) : Int) := by
  rw [wr, w64 (by omega)]; omega
/-! levels -/
theorem lev_tail : ∀ (xs : List Rw) (acc : List Int), acc.length ≠ 0 → xs.foldl levStep acc = acc ++ xs.map wr
  | [], acc, _ => by simp
  | x :: xs, acc, h => by
    rw [List.foldl_cons, levStep, if_neg (fun c => h c.1), lev_tail xs _ (by simp), List.map_cons]
    simp
theorem levF_cons (x : Rw) (xs : List Rw) : levF (x :: xs) = (if x.2.2 = true then [0] else []) ++ (x :: xs).map wr := by
  rw [levF, List.foldl_cons, lev_tail _ _ (by unfold levStep; simp), levStep]
  cases h : x.2.2 <;> simp
def expand : Bool → List Int → List Bool
  | _, [] => []
  | b, n :: v => List.replicate n.toNat b ++ expand (!b) v
theorem expand_map : ∀ (xs : List Rw) (i : Nat) (q : Bool), Chain i q xs → expand q (xs.map wr) = flat xs
  | [], _, _, _ => rfl
  | x :: xs, i, q, ⟨h1, h2, h3, h4, h5⟩ => by
    rw [List.map_cons, expand, expand_map xs _ _ h5, wr_eq (by omega) h3, Int.toNat_natCast]
    show _ = List.flatMap _ (x :: xs)
    rw [List.flatMap_cons, h4]; rfl
theorem expand_levF {qs : List Bool} (hm : qs.length < 2147483648) : expand false (levF (rows qs)) = qs := by
  obtain ⟨h1, h2⟩ := rows_all hm
  conv => rhs; rw [h2]
  generalize rows qs = xs at *
  match xs, h1 with
  | [], _ => rfl
  | x :: xs, h1 =>
    have hq := h1.2.2.2.1
    rw [levF_cons, hq]
    cases hb : qs.getD 0 false
    · rw [if_neg (by decide), List.nil_append, expand_map _ 0 _ (by rw [hb] at h1; exact h1)]
    · rw [if_pos rfl, List.cons_append, List.nil_append, expand, Int.toNat_zero, List.replicate_zero, List.nil_append]
      exact expand_map _ 0 _ (by rw [hb] at h1; exact h1)
theorem levels_inj {a b : List Bool} (ha : a.length < 2147483648) (hb : b.length < 2147483648) : levF (rows a) = levF (rows b) ↔ a = b :=
  ⟨fun h => by rw [← expand_levF ha, h, expand_levF hb], fun h => by rw [h]⟩
/-! the document's levels -/
abbrev RSt := List Int × Bool × Nat
def refStep (st : RSt) (q : Bool) : RSt := if q = st.2.1 then (st.1, st.2.1, st.2.2 + 1) else (st.1 ++ [(st.2.2 : Int)], q, 1)
def refFold (st : RSt) (qs : List Bool) : RSt := qs.foldl refStep st
def fin (st : RSt) : List Int := if 0 < st.2.2 then st.1 ++ [(st.2.2 : Int)] else st.1
def refLev (qs : List Bool) : List Int := fin (refFold ([], false, 0) qs)
theorem ref_run (out : List Int) (q : Bool) : ∀ (m n : Nat), refFold (out, q, n) (List.replicate m q) = (out, q, n + m)
  | 0, n => rfl
  | m + 1, n => by
    rw [List.replicate_succ, refFold, List.foldl_cons, refStep, if_pos rfl]
    have := ref_run out q m (n + 1)
    rw [refFold] at this
    rw [this]
    simp; omega
theorem ref_turn (out : List Int) (q : Bool) (m n : Nat) (hm : 0 < m) : refFold (out, !q, n) (List.replicate m q) = (out ++ [(n : Int)], q, m) := by
  obtain ⟨k, rfl⟩ : ∃ k, m = k + 1 := ⟨m - 1, by omega⟩
  rw [List.replicate_succ, refFold, List.foldl_cons, refStep, if_neg (by cases q <;> simp)]
  have := ref_run (out ++ [(n : Int)]) q k 1
  rw [refFold] at this
  rw [this, Nat.add_comm]
theorem refFold_app (st : RSt) (a b : List Bool) : refFold st (a ++ b) = refFold (refFold st a) b := by simp [refFold]
theorem ref_chain : ∀ (xs : List Rw) (i : Nat) (q : Bool) (out : List Int) (n : Nat), Chain i q xs → fin (refFold (out, !q, n) (flat xs)) = if xs = [] then fin (out, !q, n) else out ++ [(n : Int)] ++ xs.map wr
  | [], _, _, _, _, _ => rfl
  | x :: xs, i, q, out, n, ⟨h1, h2, h3, h4, h5⟩ => by
    rw [if_neg (by simp), flat, List.flatMap_cons, refFold_app, h4, ref_turn _ _ _ _ (by omega), ← flat]
    have := ref_chain xs x.2.1 (!q) (out ++ [(n : Int)]) (x.2.1 - x.1) h5
    rw [Bool.not_not] at this
    have hw := wr_eq (x := x) (by omega) h3
    rw [this, List.map_cons, hw]
    by_cases hx : xs = []
    · rw [if_pos hx, hx, fin, if_pos (by dsimp only; omega)]; simp
    · rw [if_neg hx]; simp
theorem refLev_eq {qs : List Bool} (hm : qs.length < 2147483648) : refLev qs = levF (rows qs) := by
  obtain ⟨h1, h2⟩ := rows_all hm
  rw [refLev]
  conv => lhs; rw [h2]
  generalize rows qs = xs at *
  match xs, h1 with
  | [], _ => rfl
  | x :: xs, h1 =>
    have hq := h1.2.2.2.1
    rw [levF_cons, hq]
    cases hb : qs.getD 0 false
    · rw [hb] at h1
      obtain ⟨c1, c2, c3, c4, c5⟩ := h1
      rw [if_neg (by decide), List.nil_append, flat, List.flatMap_cons, refFold_app, c4, ref_run, ← flat]
      have := ref_chain xs x.2.1 true [] (0 + (x.2.1 - x.1)) c5
      rw [Bool.not_true] at this
      rw [this, List.map_cons, wr_eq (x := x) (by omega) c3]
      by_cases hx : xs = []
      · rw [if_pos hx, hx, fin, if_pos (by dsimp only; omega)]; simp
      · rw [if_neg hx]; simp
    · rw [hb] at h1
      have := ref_chain (x :: xs) 0 true [] 0 h1
      rw [Bool.not_true, if_neg (by simp)] at this
      rw [this, if_pos rfl]; simp
/-! beeps -/
def bF : Bool → Int → List Int → List B2
  | _, _, [] => []
  | b, a, n :: v => (if b = true then [(a, IntKind.i64.wrap (a + n))] else []) ++ bF (!b) (IntKind.i64.wrap (a + n)) v
theorem beep_fold : ∀ (xs : List Rw) (acc : List B2), xs.foldl beepStep acc = acc ++ beepF xs
  | [], acc => by simp [beepF]
  | x :: xs, acc => by
    rw [beepF, List.foldl_cons, List.foldl_cons, beep_fold xs (beepStep acc x), beep_fold xs (beepStep [] x), beepStep, beepStep]
    split <;> simp
theorem beepF_cons (x : Rw) (xs : List Rw) : beepF (x :: xs) = (if x.2.2 = true then [((x.1 : Int), (x.2.1 : Int))] else []) ++ beepF xs := by
  rw [beepF, List.foldl_cons, beep_fold, beepStep]; split <;> simp
theorem bF_chain : ∀ (xs : List Rw) (i : Nat) (q : Bool), Chain i q xs → bF q (i : Int) (xs.map wr) = beepF xs
  | [], _, _, _ => rfl
  | x :: xs, i, q, ⟨h1, h2, h3, h4, h5⟩ => by
    have hw : IntKind.i64.wrap ((i : Int) + wr x) = (x.2.1 : Int) := by rw [wr_eq (by omega) h3, w64 (by omega)]; omega
    rw [List.map_cons, bF, hw, bF_chain xs _ _ h5, beepF_cons, h4, h1]
theorem refBeep_eq {qs : List Bool} (hm : qs.length < 2147483648) : bF false 0 (levF (rows qs)) = beepF (rows qs) := by
  obtain ⟨h1, h2⟩ := rows_all hm
  clear h2
  generalize rows qs = xs at *
  match xs, h1 with
  | [], _ => rfl
  | x :: xs, h1 =>
    have hq := h1.2.2.2.1
    rw [levF_cons, hq]
    cases hb : qs.getD 0 false
    · rw [hb] at h1
      rw [if_neg (by decide), List.nil_append]
      exact bF_chain _ 0 _ h1
    · rw [hb] at h1
      rw [if_pos rfl, List.cons_append, List.nil_append, bF, if_neg (by decide), List.nil_append, show IntKind.i64.wrap ((0 : Int) + 0) = ((0 : Nat) : Int) from rfl]
      exact bF_chain _ 0 _ h1
/-! waves -/
def wG : List Int → List B2
  | [] => []
  | [n] => [(n, 0)]
  | n :: m :: r => (n, m) :: wG r
theorem wave_fold : ∀ (xs : List Rw) (i : Nat) (acc : List B2), Chain i true xs → xs.foldl waveStep acc = acc ++ wG (xs.map wr)
  | [], _, acc, _ => by simp [wG]
  | [x], i, acc, ⟨h1, h2, h3, h4, _⟩ => by simp [wG, waveStep, h4]
  | x :: y :: xs, i, acc, ⟨h1, h2, h3, h4, g1, g2, g3, g4, g5⟩ => by
    rw [List.foldl_cons, List.foldl_cons, List.map_cons, List.map_cons, wG]
    have e1 : waveStep acc x = acc ++ [(wr x, 0)] := by rw [waveStep, if_pos h4]
    have e2 : waveStep (acc ++ [(wr x, 0)]) y = acc ++ [(wr x, wr y)] := by
      rw [waveStep, if_neg (by rw [g4]; decide), if_pos (by simp)]
      simp
    rw [e1, e2, wave_fold xs _ _ (by simpa using g5)]
    simp
theorem refWave_eq {qs : List Bool} (hm : qs.length < 2147483648) : wG ((levF (rows qs)).drop 1) = waveF (rows qs) := by
  obtain ⟨h1, h2⟩ := rows_all hm
  clear h2
  generalize rows qs = xs at *
  match xs, h1 with
  | [], _ => rfl
  | x :: xs, h1 =>
    have hq := h1.2.2.2.1
    rw [levF_cons, hq]
    cases hb : qs.getD 0 false
    · rw [hb] at h1
      obtain ⟨c1, c2, c3, c4, c5⟩ := h1
      rw [if_neg (by decide), List.nil_append, List.map_cons, List.drop_one, List.tail_cons, waveF, List.foldl_cons, show waveStep [] x = [] by simp [waveStep, c4]]
      have := wave_fold xs _ [] c5
      rw [this]; rfl
    · rw [hb] at h1
      rw [if_pos rfl, List.cons_append, List.nil_append, List.drop_one, List.tail_cons]
      have := wave_fold (x :: xs) 0 [] h1
      rw [waveF, this]; rfl
end Go.Proofs.Ytkeefmneldflaaa
