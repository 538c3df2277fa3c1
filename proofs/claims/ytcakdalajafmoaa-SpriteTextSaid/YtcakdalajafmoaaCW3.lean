/- A part of the proof of SpriteTextSaid. -/
import Derived.Test.YtcakdalajafmoaaCW2
set_option linter.unusedVariables false
set_option linter.unusedSimpArgs false
namespace Go.Proofs.Ytcakdalajafmoaa
open Go.RowKit Go.SX
theorem dotB_all : ((List.range 256).all fun b => (List.range 8).all fun k => dotB ((b : Nat) : Int) k == b.testBit (7 - k)) = true := by kernel_rfl
theorem dotB_test {b k : Nat} (hb : b < 256) (hk : k < 8) : dotB (b : Int) k = b.testBit (7 - k) := by
  have h1 := List.all_eq_true.1 dotB_all b (List.mem_range.2 hb)
  have h2 := List.all_eq_true.1 h1 k (List.mem_range.2 hk)
  simpa using h2
theorem or_all : ((List.range 256).all fun b => (List.range 8).all fun k => bits .or .u8 ((b : Nat) : Int) ((128 : Int).fdiv (2 ^ (min k 8))) == ((b ||| 2 ^ (7 - k) : Nat) : Int)) = true := by kernel_rfl
theorem or_test {b k : Nat} (hb : b < 256) (hk : k < 8) : bits .or .u8 (b : Int) ((128 : Int).fdiv (2 ^ (min k 8))) = ((b ||| 2 ^ (7 - k) : Nat) : Int) := by
  have h1 := List.all_eq_true.1 or_all b (List.mem_range.2 hb)
  have h2 := List.all_eq_true.1 h1 k (List.mem_range.2 hk)
  simpa using h2
theorem or_lt {b k : Nat} (hb : b < 256) (hk : k < 8) : b ||| 2 ^ (7 - k) < 256 := by
  have : 2 ^ (7 - k) < 2 ^ 8 := Nat.pow_lt_pow_right (by omega) (by omega)
  exact Nat.or_lt_two_pow (n := 8) hb this
theorem dots_ext {a b : Nat} (ha : a < 256) (hb : b < 256) (h : ∀ k, k < 8 → dotB (a : Int) k = dotB (b : Int) k) : a = b := by
  apply Nat.eq_of_testBit_eq
  intro i
  by_cases hi : i < 8
  · have := h (7 - i) (by omega)
    rw [dotB_test ha (by omega), dotB_test hb (by omega), show 7 - (7 - i) = i by omega] at this
    exact this
  · have h256 : 256 ≤ 2 ^ i := by
      have := Nat.pow_le_pow_right (n := 2) (by omega) (show 8 ≤ i by omega)
      omega
    rw [Nat.testBit_lt_two_pow (by omega), Nat.testBit_lt_two_pow (by omega)]

def pos (k m : Nat) : Nat := k / 8 * 65 + k % 8 * 8 + m
theorem pos_mod {k m : Nat} (hm : m < 8) : pos k m % 65 = k % 8 * 8 + m := by
  unfold pos
  rw [Nat.add_assoc, Nat.mul_comm (k / 8), Nat.mul_add_mod, Nat.mod_eq_of_lt (by omega)]
theorem pos_div {k m : Nat} (hm : m < 8) : pos k m / 65 = k / 8 := by
  unfold pos
  rw [Nat.add_assoc, Nat.mul_comm (k / 8), Nat.mul_add_div (by omega), Nat.div_eq_of_lt (show k % 8 * 8 + m < 65 by omega), Nat.add_zero]
/-- The sign at a place of a page's text. -/
def chr (page : List Int) (j : Nat) : Int := if j % 65 = 64 then 10 else if dotB (page.getD (j / 65 * 8 + j % 65 / 8) 0) (j % 65 % 8) then 35 else 46
theorem showTo_eq (page : List Int) : ∀ i, showTo page i = (List.range (8 * i + i / 8)).map (chr page) := by
  intro i
  induction i with
  | zero => simp [showTo]
  | succ i ih =>
    have h8 : dots (page.getD i 0) 8 = (List.range 8).map fun m => chr page (8 * i + i / 8 + m) := by
      unfold dots
      refine List.map_congr_left fun m hm => ?_
      have hm' := List.mem_range.1 hm
      have h1 := pos_mod (k := i) hm'
      have h2 := pos_div (k := i) hm'
      rw [show 8 * i + i / 8 + m = pos i m by unfold pos; omega, chr, if_neg (show ¬ pos i m % 65 = 64 by omega), show pos i m / 65 * 8 + pos i m % 65 / 8 = i by omega, show pos i m % 65 % 8 = m by omega]
    rw [showTo_succ, ih, h8]
    by_cases h7 : i % 8 = 7
    · rw [rowEnd, if_pos h7, show 8 * (i + 1) + (i + 1) / 8 = (8 * i + i / 8) + (8 + 1) by omega, show List.range ((8 * i + i / 8) + (8 + 1)) = _ from List.range_add, show List.range (8 + 1) = _ from List.range_succ (n := 8)]
      simp only [List.map_append, List.map_map, List.append_assoc, List.map_cons, List.map_nil]
      have h10 : chr page (8 * i + i / 8 + 8) = 10 := by rw [chr, if_pos (by omega)]
      rw [h10]
      rfl
    · rw [rowEnd, if_neg h7, List.append_nil, show 8 * (i + 1) + (i + 1) / 8 = (8 * i + i / 8) + 8 by omega, show List.range ((8 * i + i / 8) + 8) = _ from List.range_add, List.map_append, List.map_map]
      rfl
theorem showTo_len (page : List Int) : (showTo page 256).length = 2080 := by rw [showTo_eq, List.length_map, List.length_range]
theorem showTo_at {page : List Int} {j : Nat} (hj : j < 2080) : (showTo page 256).getD j 0 = chr page j := by
  rw [showTo_eq, List.getD_eq_getElem?_getD, List.getElem?_map, List.getElem?_range (by omega)]
  rfl

structure Back (l : List Int) (i : Nat) (out : List Int) : Prop where
  byte : ∀ k, k < 256 → ∃ b : Nat, b < 256 ∧ out.getD k 0 = (b : Int)
  dot : ∀ k m, k < 256 → m < 8 → dotB (out.getD k 0) m = decide (pos k m < i ∧ l.getD (pos k m) 0 = 35)
  sign : ∀ j, j < i → if j % 65 = 64 then l.getD j 0 = 10 else l.getD j 0 = 46 ∨ l.getD j 0 = 35
theorem dotB_zero {m : Nat} (hm : m < 8) : dotB 0 m = false := by
  have := dotB_test (b := 0) (by omega) hm
  simpa using this
theorem getD_set (l : List Int) (j k : Nat) (x : Int) (hj : j < l.length) : (l.set j x).getD k 0 = if j = k then x else l.getD k 0 := by
  simp only [List.getD_eq_getElem?_getD, List.getElem?_set]
  split
  · rename_i h; subst h; simp [hj]
  · rfl
theorem back {l : List Int} : ∀ {i : Nat} {out : List Int}, i ≤ 2080 → readTo l i = some out → Back l i out := by
  intro i
  induction i with
  | zero =>
    intro out _ h
    cases h
    have hz : ∀ k, k < 256 → (List.replicate 256 (0 : Int)).getD k 0 = 0 := fun k hk => by rw [List.getD_eq_getElem?_getD, List.getElem?_replicate, if_pos hk]; rfl
    refine ⟨fun k hk => ⟨0, by omega, hz k hk⟩, fun k m hk hm => ?_, fun j hj => absurd hj (Nat.not_lt_zero _)⟩
    rw [hz k hk, dotB_zero hm]
    exact (decide_eq_false (fun h => absurd h.1 (Nat.not_lt_zero _))).symm
  | succ i ih =>
    intro out hi h
    simp only [readTo, Option.bind_eq_some_iff] at h
    obtain ⟨o, h1, h2⟩ := h
    have B := ih (by omega) h1
    have hlen := readTo_length h1
    unfold readStep at h2
    split at h2
    · rename_i hc
      cases h2
      refine ⟨B.byte, fun k m hk hm => ?_, fun j hj => ?_⟩
      · rw [B.dot k m hk hm]
        have h1 := pos_mod (k := k) hm
        have h2 := pos_div (k := k) hm
        have : pos k m ≠ i := fun e => by rw [e] at h1 h2; omega
        exact decide_eq_decide.2 ⟨fun h => ⟨by omega, h.2⟩, fun h => ⟨by omega, h.2⟩⟩
      · rcases Nat.lt_succ_iff_lt_or_eq.1 hj with h | rfl
        · exact B.sign j h
        · rw [if_pos hc.1]; exact hc.2
    split at h2
    · rename_i hn hc
      cases h2
      refine ⟨B.byte, fun k m hk hm => ?_, fun j hj => ?_⟩
      · rw [B.dot k m hk hm]
        refine decide_eq_decide.2 ⟨fun h => ⟨by omega, h.2⟩, fun h => ⟨?_, h.2⟩⟩
        rcases Nat.lt_succ_iff_lt_or_eq.1 h.1 with h' | h'
        · exact h'
        · have := h.2; rw [h', hc.2] at this; cases this
      · rcases Nat.lt_succ_iff_lt_or_eq.1 hj with h | rfl
        · exact B.sign j h
        · rw [if_neg (by omega)]; exact .inl hc.2
    split at h2
    · rename_i hn1 hn hc
      cases h2
      obtain ⟨b, hb, hbe⟩ := B.byte (i / 65 * 8 + i % 65 / 8) (by omega)
      rw [hbe, or_test hb (by omega)]
      refine ⟨fun k hk => ?_, fun k m hk hm => ?_, fun j hj => ?_⟩
      · rw [getD_set _ _ _ _ (by omega)]
        split
        · exact ⟨_, or_lt hb (by omega), rfl⟩
        · exact B.byte k hk
      · rw [getD_set _ _ _ _ (by omega)]
        split
        · rename_i hk'
          subst hk'
          have hd := B.dot _ m hk hm
          rw [hbe, dotB_test hb hm] at hd
          rw [dotB_test (or_lt hb (by omega)) hm, Nat.testBit_or, hd, Nat.testBit_two_pow]
          have hp : pos (i / 65 * 8 + i % 65 / 8) m = i / 65 * 65 + i % 65 / 8 * 8 + m := by unfold pos; omega
          rw [hp]
          by_cases hm' : m = i % 65 % 8
          · have e1 : i / 65 * 65 + i % 65 / 8 * 8 + m = i := by omega
            rw [e1, decide_eq_true (show 7 - i % 65 % 8 = 7 - m by omega), Bool.or_true]
            exact (decide_eq_true ⟨by omega, hc.2⟩).symm
          · rw [decide_eq_false (show ¬ 7 - i % 65 % 8 = 7 - m by omega), Bool.or_false]
            exact decide_eq_decide.2 ⟨fun h => ⟨by omega, h.2⟩, fun h => ⟨by omega, h.2⟩⟩
        · rename_i hk'
          rw [B.dot k m hk hm]
          have h1 := pos_mod (k := k) hm
          have h2 := pos_div (k := k) hm
          have : pos k m ≠ i := fun e => by rw [e] at h1 h2; omega
          exact decide_eq_decide.2 ⟨fun h => ⟨by omega, h.2⟩, fun h => ⟨by omega, h.2⟩⟩
      · rcases Nat.lt_succ_iff_lt_or_eq.1 hj with h | rfl
        · exact B.sign j h
        · rw [if_neg (by omega)]; exact .inr hc.2
    · cases h2

theorem read_back {l out : List Int} (hl : l.length = 2080) (h : readTo l 2080 = some out) : showTo out 256 = l := by
  have B := back (Nat.le_refl _) h
  refine list_eq_of (by rw [showTo_len, hl]) fun j hj => ?_
  rw [showTo_len] at hj
  have h1 := showTo_at (page := out) hj
  have h2 : chr out j = l.getD j 0 := by
    have hs := B.sign j hj
    unfold chr
    split
    · rename_i h64; rw [if_pos h64] at hs; exact hs.symm
    · rename_i h64
      rw [if_neg h64] at hs
      rw [B.dot _ _ (by omega) (by omega)]
      have hp : pos (j / 65 * 8 + j % 65 / 8) (j % 65 % 8) = j := by unfold pos; omega
      rw [hp]
      rcases hs with hs | hs
      · rw [hs, decide_eq_false (fun h => absurd h.2 (by decide)), if_neg (by simp)]
      · rw [hs, decide_eq_true ⟨hj, rfl⟩, if_pos rfl]
  rw [List.getElem?_eq_getElem (by rw [showTo_len]; exact hj), List.getElem?_eq_getElem (by omega)]
  rw [h2, List.getD_eq_getElem?_getD, List.getD_eq_getElem?_getD, List.getElem?_eq_getElem (by rw [showTo_len]; exact hj), List.getElem?_eq_getElem (by omega)] at h1
  simpa using h1
theorem readTo_some {l : List Int} (h : ∀ j, j < 2080 → if j % 65 = 64 then l.getD j 0 = 10 else l.getD j 0 = 46 ∨ l.getD j 0 = 35) : ∀ i, i ≤ 2080 → ∃ out, readTo l i = some out := by
  intro i
  induction i with
  | zero => intro _; exact ⟨_, rfl⟩
  | succ i ih =>
    intro hi
    obtain ⟨o, ho⟩ := ih (by omega)
    rw [readTo, ho]
    show ∃ out, readStep l i o = some out
    have := h i (by omega)
    unfold readStep
    split at this
    · exact ⟨_, if_pos ⟨by omega, this⟩⟩
    · rcases this with this | this
      · exact ⟨_, by rw [if_neg (by omega), if_pos (by omega)]⟩
      · exact ⟨_, by rw [if_neg (by omega), if_neg (by omega), if_pos (by omega)]⟩
theorem there {page : List Int} (hp : page.length = 256) (hb : Byte page) : readTo (showTo page 256) 2080 = some page := by
  obtain ⟨out, ho⟩ := readTo_some (l := showTo page 256) (fun j hj => by
    rw [showTo_at hj]
    unfold chr
    split
    · rfl
    · split
      · exact .inr rfl
      · exact .inl rfl) 2080 (Nat.le_refl _)
  rw [ho]
  have hlen := readTo_length ho
  have B := back (Nat.le_refl _) ho
  refine congrArg some ?_
  refine list_eq_of (by omega) fun k hk => ?_
  rw [hlen] at hk
  obtain ⟨b, hb1, hb2⟩ := B.byte k hk
  have hpk := hb page[k] (List.getElem_mem (by omega))
  have hpd : page.getD k 0 = page[k] := by simp [List.getD_eq_getElem?_getD, List.getElem?_eq_getElem (show k < page.length by omega)]
  have hod : out.getD k 0 = out[k] := by simp [List.getD_eq_getElem?_getD, List.getElem?_eq_getElem (show k < out.length by omega)]
  have hn : page[k] = ((page[k].toNat : Nat) : Int) := by omega
  have : b = page[k].toNat := dots_ext hb1 (by omega) fun m hm => by
    rw [← hb2, B.dot k m hk hm, ← hn, ← hpd]
    have hpos : pos k m < 2080 := by unfold pos; omega
    have h1 := pos_mod (k := k) hm
    have h2 := pos_div (k := k) hm
    rw [showTo_at hpos, chr, if_neg (by omega), show pos k m / 65 * 8 + pos k m % 65 / 8 = k by omega, show pos k m % 65 % 8 = m by omega]
    cases dotB (page.getD k 0) m
    · exact decide_eq_false (fun h => absurd h.2 (by decide))
    · exact decide_eq_true ⟨hpos, rfl⟩
  rw [List.getElem?_eq_getElem (by omega), List.getElem?_eq_getElem (by omega), ← hod, hb2, this, ← hn]
theorem read_byte {l out : List Int} (h : readTo l 2080 = some out) : Byte out := by
  intro x hx
  obtain ⟨k, hk, rfl⟩ := List.getElem_of_mem hx
  have hlen := readTo_length h
  obtain ⟨b, hb1, hb2⟩ := (back (Nat.le_refl _) h).byte k (by omega)
  have hod : out.getD k 0 = out[k] := by simp [List.getD_eq_getElem?_getD, List.getElem?_eq_getElem hk]
  rw [← hod, hb2]
  omega
end Go.Proofs.Ytcakdalajafmoaa
