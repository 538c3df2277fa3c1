/- A part of the proof of SpriteExactCardSaid. -/
import Derived.Test.YtcakdalajafmoaaDoorCV2
import Derived.Test.YtcakdalajafmoaaDoorCV3
import Derived.Laws.BitsLemmas
import Derived.Laws.BitsAllLaws
set_option linter.unusedVariables false
set_option linter.unusedSimpArgs false
namespace Go.Proofs.YtcakdalajafmoaaDoor
open Go.RowKit Go.SX
def dotD (b : Int) (d : Nat) : Bool := !decide (bits .and .u8 b ((128 : Int).fdiv (2 ^ (min d 8))) = 0)
def hit (page : List Int) (x y : Nat) (rows : List Int) (k d : Nat) : Bool :=
  dotD (rows.getD k 0) d && decide (x % 64 + d < 64) && decide (y % 32 + k < 32) && dotD (page.getD (8 * (y % 32 + k) + (x % 64 + d) / 8) 0) ((x % 64 + d) % 8)
def went (page : List Int) (x y : Nat) (rows : List Int) : Bool := (List.range rows.length).any fun k => (List.range 8).any fun d => hit page x y rows k d
theorem getD_some {l : List Int} {k : Nat} (h : k < l.length) : l[k]? = some (l.getD k 0) := by simp [List.getD_eq_getElem?_getD, List.getElem?_eq_getElem h]
theorem dotB_all : ((List.range 256).all fun b => (List.range 8).all fun k => dotB ((b : Nat) : Int) k == b.testBit (7 - k)) = true := by kernel_rfl
theorem dotB_test {b k : Nat} (hb : b < 256) (hk : k < 8) : dotB (b : Int) k = b.testBit (7 - k) := by
  have h1 := List.all_eq_true.1 dotB_all b (List.mem_range.2 hb)
  have h2 := List.all_eq_true.1 h1 k (List.mem_range.2 hk)
  simpa using h2
theorem or_all : ((List.range 256).all fun b => (List.range 8).all fun k => bits .or .u8 ((b : Nat) : Int) ((128 : Int).fdiv (2 ^ (min k 8))) == ((b ||| 2 ^ (7 - k) : Nat) : Int)) = true := by kernel_rfl
theorem or_test {b k : Nat} (hb : b < 256) (hk : k < 8) : bits .or .u8 (b : Int) ((128 : Int).fdiv (2 ^ (min k 8))) = ((b ||| 2 ^ (7 - k) : Nat) : Int) := by
  have h1 := List.all_eq_true.1 or_all b (List.mem_range.2 hb)
  have h2 := List.all_eq_true.1 h1 k (List.mem_range.2 hk)
  simpa using h2
theorem or_lt {b k : Nat} (hb : b < 256) (hk : k < 8) : b ||| 2 ^ (7 - k) < 256 := by
  have : 2 ^ (7 - k) < 2 ^ 8 := Nat.pow_lt_pow_right (by omega) (by omega)
  exact Nat.or_lt_two_pow (n := 8) hb this
theorem dots_ext {a b : Nat} (ha : a < 256) (hb : b < 256) (h : ∀ k, k < 8 → dotB (a : Int) k = dotB (b : Int) k) : a = b := by
  apply Nat.eq_of_testBit_eq
  intro i
  by_cases hi : i < 8
  · have := h (7 - i) (by omega)
    rw [dotB_test ha (by omega), dotB_test hb (by omega), show 7 - (7 - i) = i by omega] at this
    exact this
  · have h256 : 256 ≤ 2 ^ i := by
      have := Nat.pow_le_pow_right (n := 2) (by omega) (show 8 ≤ i by omega)
      omega
    rw [Nat.testBit_lt_two_pow (by omega), Nat.testBit_lt_two_pow (by omega)]

def pos (k m : Nat) : Nat := k / 8 * 65 + k % 8 * 8 + m
theorem pos_mod {k m : Nat} (hm : m < 8) : pos k m % 65 = k % 8 * 8 + m := by
  unfold pos
  rw [Nat.add_assoc, Nat.mul_comm (k / 8), Nat.mul_add_mod, Nat.mod_eq_of_lt (by omega)]
theorem pos_div {k m : Nat} (hm : m < 8) : pos k m / 65 = k / 8 := by
  unfold pos
  rw [Nat.add_assoc, Nat.mul_comm (k / 8), Nat.mul_add_div (by omega), Nat.div_eq_of_lt (show k % 8 * 8 + m < 65 by omega), Nat.add_zero]
/-- The sign at a place of a page's text. -/
def chr (page : List Int) (j : Nat) : Int := if j % 65 = 64 then 10 else if dotB (page.getD (j / 65 * 8 + j % 65 / 8) 0) (j % 65 % 8) then 35 else 46
theorem showTo_eq (page : List Int) : ∀ i, showTo page i = (List.range (8 * i + i / 8)).map (chr page) := by
  intro i
  induction i with
  | zero => simp [showTo]
  | succ i ih =>
    have h8 : dots (page.getD i 0) 8 = (List.range 8).map fun m => chr page (8 * i + i / 8 + m) := by
      unfold dots
      refine List.map_congr_left fun m hm => ?_
      have hm' := List.mem_range.1 hm
      have h1 := pos_mod (k := i) hm'
      have h2 := pos_div (k := i) hm'
      rw [show 8 * i + i / 8 + m = pos i m by unfold pos; omega, chr, if_neg (show ¬ pos i m % 65 = 64 by omega), show pos i m / 65 * 8 + pos i m % 65 / 8 = i by omega, show pos i m % 65 % 8 = m by omega]
    rw [showTo_succ, ih, h8]
    by_cases h7 : i % 8 = 7
    · rw [rowEnd, if_pos h7, show 8 * (i + 1) + (i + 1) / 8 = (8 * i + i / 8) + (8 + 1) by omega, show List.range ((8 * i + i / 8) + (8 + 1)) = _ from List.range_add, show List.range (8 + 1) = _ from List.range_succ (n := 8)]
      simp only [List.map_append, List.map_map, List.append_assoc, List.map_cons, List.map_nil]
      have h10 : chr page (8 * i + i / 8 + 8) = 10 := by rw [chr, if_pos (by omega)]
      rw [h10]
      rfl
    · rw [rowEnd, if_neg h7, List.append_nil, show 8 * (i + 1) + (i + 1) / 8 = (8 * i + i / 8) + 8 by omega, show List.range ((8 * i + i / 8) + 8) = _ from List.range_add, List.map_append, List.map_map]
      rfl
theorem showTo_len (page : List Int) : (showTo page 256).length = 2080 := by rw [showTo_eq, List.length_map, List.length_range]
theorem showTo_at {page : List Int} {j : Nat} (hj : j < 2080) : (showTo page 256).getD j 0 = chr page j := by
  rw [showTo_eq, List.getD_eq_getElem?_getD, List.getElem?_map, List.getElem?_range (by omega)]
  rfl

structure Back (l : List Int) (i : Nat) (out : List Int) : Prop where
  byte : ∀ k, k < 256 → ∃ b : Nat, b < 256 ∧ out.getD k 0 = (b : Int)
  dot : ∀ k m, k < 256 → m < 8 → dotB (out.getD k 0) m = decide (pos k m < i ∧ l.getD (pos k m) 0 = 35)
  sign : ∀ j, j < i → if j % 65 = 64 then l.getD j 0 = 10 else l.getD j 0 = 46 ∨ l.getD j 0 = 35
theorem dotB_zero {m : Nat} (hm : m < 8) : dotB 0 m = false := by
  have := dotB_test (b := 0) (by omega) hm
  simpa using this
theorem getD_set (l : List Int) (j k : Nat) (x : Int) (hj : j < l.length) : (l.set j x).getD k 0 = if j = k then x else l.getD k 0 := by
  simp only [List.getD_eq_getElem?_getD, List.getElem?_set]
  split
  · rename_i h; subst h; simp [hj]
  · rfl
theorem back {l : List Int} : ∀ {i : Nat} {out : List Int}, i ≤ 2080 → readTo l i = some out → Back l i out := by
  intro i
  induction i with
  | zero =>
    intro out _ h
    cases h
    have hz : ∀ k, k < 256 → (List.replicate 256 (0 : Int)).getD k 0 = 0 := fun k hk => by rw [List.getD_eq_getElem?_getD, List.getElem?_replicate, if_pos hk]; rfl
    refine ⟨fun k hk => ⟨0, by omega, hz k hk⟩, fun k m hk hm => ?_, fun j hj => absurd hj (Nat.not_lt_zero _)⟩
    rw [hz k hk, dotB_zero hm]
    exact (decide_eq_false (fun h => absurd h.1 (Nat.not_lt_zero _))).symm
  | succ i ih =>
    intro out hi h
    simp only [readTo, Option.bind_eq_some_iff] at h
    obtain ⟨o, h1, h2⟩ := h
    have B := ih (by omega) h1
    have hlen := readTo_length h1
    unfold readStep at h2
    split at h2
    · rename_i hc
      cases h2
      refine ⟨B.byte, fun k m hk hm => ?_, fun j hj => ?_⟩
      · rw [B.dot k m hk hm]
        have h1 := pos_mod (k := k) hm
        have h2 := pos_div (k := k) hm
        have : pos k m ≠ i := fun e => by rw [e] at h1 h2; omega
        exact decide_eq_decide.2 ⟨fun h => ⟨by omega, h.2⟩, fun h => ⟨by omega, h.2⟩⟩
      · rcases Nat.lt_succ_iff_lt_or_eq.1 hj with h | rfl
        · exact B.sign j h
        · rw [if_pos hc.1]; exact hc.2
    split at h2
    · rename_i hn hc
      cases h2
      refine ⟨B.byte, fun k m hk hm => ?_, fun j hj => ?_⟩
      · rw [B.dot k m hk hm]
        refine decide_eq_decide.2 ⟨fun h => ⟨by omega, h.2⟩, fun h => ⟨?_, h.2⟩⟩
        rcases Nat.lt_succ_iff_lt_or_eq.1 h.1 with h' | h'
        · exact h'
        · have := h.2; rw [h', hc.2] at this; cases this
      · rcases Nat.lt_succ_iff_lt_or_eq.1 hj with h | rfl
        · exact B.sign j h
        · rw [if_neg (by omega)]; exact .inl hc.2
    split at h2
    · rename_i hn1 hn hc
      cases h2
      obtain ⟨b, hb, hbe⟩ := B.byte (i / 65 * 8 + i % 65 / 8) (by omega)
      rw [hbe, or_test hb (by omega)]
      refine ⟨fun k hk => ?_, fun k m hk hm => ?_, fun j hj => ?_⟩
      · rw [getD_set _ _ _ _ (by omega)]
        split
        · exact ⟨_, or_lt hb (by omega), rfl⟩
        · exact B.byte k hk
      · rw [getD_set _ _ _ _ (by omega)]
        split
        · rename_i hk'
          subst hk'
          have hd := B.dot _ m hk hm
          rw [hbe, dotB_test hb hm] at hd
          rw [dotB_test (or_lt hb (by omega)) hm, Nat.testBit_or, hd, Nat.testBit_two_pow]
          have hp : pos (i / 65 * 8 + i % 65 / 8) m = i / 65 * 65 + i % 65 / 8 * 8 + m := by unfold pos; omega
          rw [hp]
          by_cases hm' : m = i % 65 % 8
          · have e1 : i / 65 * 65 + i % 65 / 8 * 8 + m = i := by omega
            rw [e1, decide_eq_true (show 7 - i % 65 % 8 = 7 - m by omega), Bool.or_true]
            exact (decide_eq_true ⟨by omega, hc.2⟩).symm
          · rw [decide_eq_false (show ¬ 7 - i % 65 % 8 = 7 - m by omega), Bool.or_false]
            exact decide_eq_decide.2 ⟨fun h => ⟨by omega, h.2⟩, fun h => ⟨by omega, h.2⟩⟩
        · rename_i hk'
          rw [B.dot k m hk hm]
          have h1 := pos_mod (k := k) hm
          have h2 := pos_div (k := k) hm
          have : pos k m ≠ i := fun e => by rw [e] at h1 h2; omega
          exact decide_eq_decide.2 ⟨fun h => ⟨by omega, h.2⟩, fun h => ⟨by omega, h.2⟩⟩
      · rcases Nat.lt_succ_iff_lt_or_eq.1 hj with h | rfl
        · exact B.sign j h
        · rw [if_neg (by omega)]; exact .inr hc.2
    · cases h2

theorem read_back {l out : List Int} (hl : l.length = 2080) (h : readTo l 2080 = some out) : showTo out 256 = l := by
  have B := back (Nat.le_refl _) h
  refine list_eq_of (by rw [showTo_len, hl]) fun j hj => ?_
  rw [showTo_len] at hj
  have h1 := showTo_at (page := out) hj
  have h2 : chr out j = l.getD j 0 := by
    have hs := B.sign j hj
    unfold chr
    split
    · rename_i h64; rw [if_pos h64] at hs; exact hs.symm
    · rename_i h64
      rw [if_neg h64] at hs
      rw [B.dot _ _ (by omega) (by omega)]
      have hp : pos (j / 65 * 8 + j % 65 / 8) (j % 65 % 8) = j := by unfold pos; omega
      rw [hp]
      rcases hs with hs | hs
      · rw [hs, decide_eq_false (fun h => absurd h.2 (by decide)), if_neg (by simp)]
      · rw [hs, decide_eq_true ⟨hj, rfl⟩, if_pos rfl]
  rw [List.getElem?_eq_getElem (by rw [showTo_len]; exact hj), List.getElem?_eq_getElem (by omega)]
  rw [h2, List.getD_eq_getElem?_getD, List.getD_eq_getElem?_getD, List.getElem?_eq_getElem (by rw [showTo_len]; exact hj), List.getElem?_eq_getElem (by omega)] at h1
  simpa using h1
theorem readTo_some {l : List Int} (h : ∀ j, j < 2080 → if j % 65 = 64 then l.getD j 0 = 10 else l.getD j 0 = 46 ∨ l.getD j 0 = 35) : ∀ i, i ≤ 2080 → ∃ out, readTo l i = some out := by
  intro i
  induction i with
  | zero => intro _; exact ⟨_, rfl⟩
  | succ i ih =>
    intro hi
    obtain ⟨o, ho⟩ := ih (by omega)
    rw [readTo, ho]
    show ∃ out, readStep l i o = some out
    have := h i (by omega)
    unfold readStep
    split at this
    · exact ⟨_, if_pos ⟨by omega, this⟩⟩
    · rcases this with this | this
      · exact ⟨_, by rw [if_neg (by omega), if_pos (by omega)]⟩
      · exact ⟨_, by rw [if_neg (by omega), if_neg (by omega), if_pos (by omega)]⟩
theorem there {page : List Int} (hp : page.length = 256) (hb : Byte page) : readTo (showTo page 256) 2080 = some page := by
  obtain ⟨out, ho⟩ := readTo_some (l := showTo page 256) (fun j hj => by
    rw [showTo_at hj]
    unfold chr
    split
    · rfl
    · split
      · exact .inr rfl
      · exact .inl rfl) 2080 (Nat.le_refl _)
  rw [ho]
  have hlen := readTo_length ho
  have B := back (Nat.le_refl _) ho
  refine congrArg some ?_
  refine list_eq_of (by omega) fun k hk => ?_
  rw [hlen] at hk
  obtain ⟨b, hb1, hb2⟩ := B.byte k hk
  have hpk := hb page[k] (List.getElem_mem (by omega))
  have hpd : page.getD k 0 = page[k] := by simp [List.getD_eq_getElem?_getD, List.getElem?_eq_getElem (show k < page.length by omega)]
  have hod : out.getD k 0 = out[k] := by simp [List.getD_eq_getElem?_getD, List.getElem?_eq_getElem (show k < out.length by omega)]
  have hn : page[k] = ((page[k].toNat : Nat) : Int) := by omega
  have : b = page[k].toNat := dots_ext hb1 (by omega) fun m hm => by
    rw [← hb2, B.dot k m hk hm, ← hn, ← hpd]
    have hpos : pos k m < 2080 := by unfold pos; omega
    have h1 := pos_mod (k := k) hm
    have h2 := pos_div (k := k) hm
    rw [showTo_at hpos, chr, if_neg (by omega), show pos k m / 65 * 8 + pos k m % 65 / 8 = k by omega, show pos k m % 65 % 8 = m by omega]
    cases dotB (page.getD k 0) m
    · exact decide_eq_false (fun h => absurd h.2 (by decide))
    · exact decide_eq_true ⟨hpos, rfl⟩
  rw [List.getElem?_eq_getElem (by omega), List.getElem?_eq_getElem (by omega), ← hod, hb2, this, ← hn]
theorem read_byte {l out : List Int} (h : readTo l 2080 = some out) : Byte out := by
  intro x hx
  obtain ⟨k, hk, rfl⟩ := List.getElem_of_mem hx
  have hlen := readTo_length h
  obtain ⟨b, hb1, hb2⟩ := (back (Nat.le_refl _) h).byte k (by omega)
  have hod : out.getD k 0 = out[k] := by simp [List.getD_eq_getElem?_getD, List.getElem?_eq_getElem hk]
  rw [← hod, hb2]
  omega
/-! ### The dots of a page -/
theorem dotD_all : ((List.range 256).all fun b => (List.range 8).all fun k => dotD ((b : Nat) : Int) k == b.testBit (7 - k) && (dotB ((b : Nat) : Int) k == b.testBit (7 - k))) = true := by kernel_rfl
theorem dotD_test {b k : Nat} (hb : b < 256) (hk : k < 8) : dotD (b : Int) k = b.testBit (7 - k) ∧ dotB (b : Int) k = b.testBit (7 - k) := by
  have h1 := List.all_eq_true.1 dotD_all b (List.mem_range.2 hb)
  have h2 := List.all_eq_true.1 h1 k (List.mem_range.2 hk)
  simpa using h2
theorem bitOf_all : ((List.range 8).all fun k => decide ((128 : Int).fdiv (2 ^ (min k 8)) = ((2 ^ (7 - k) : Nat) : Int))) = true := by kernel_rfl
theorem bitOf_pow (i : Nat) : bitOf i = ((2 ^ (7 - i % 8) : Nat) : Int) :=
  of_decide_eq_true (List.all_eq_true.1 bitOf_all (i % 8) (List.mem_range.2 (by omega)))
def ByteN (l : List Int) : Prop := ∀ x ∈ l, ∃ b : Nat, b < 256 ∧ x = (b : Int)
theorem Byte.toN {l : List Int} (h : Byte l) : ByteN l := fun x hx => ⟨x.toNat, by have := h x hx; omega, by have := h x hx; omega⟩
theorem ByteN.at {l : List Int} (h : ByteN l) (k : Nat) : ∃ b : Nat, b < 256 ∧ l.getD k 0 = (b : Int) := by
  by_cases hk : k < l.length
  · rw [List.getD_eq_getElem?_getD, List.getElem?_eq_getElem hk]
    exact h _ (List.getElem_mem hk)
  · rw [List.getD_eq_getElem?_getD, List.getElem?_eq_none (by omega)]
    exact ⟨0, by omega, rfl⟩
theorem dotD_dotB {l : List Int} (h : ByteN l) (k : Nat) {d : Nat} (hd : d < 8) : dotD (l.getD k 0) d = dotB (l.getD k 0) d := by
  obtain ⟨b, hb, e⟩ := h.at k
  rw [e, (dotD_test hb hd).1, (dotD_test hb hd).2]
def pix (page : List Int) (i j : Nat) : Bool := dotD (page.getD (8 * j + i / 8) 0) (i % 8)
theorem xor_byte {b i : Nat} (hb : b < 256) : ∃ c : Nat, c < 256 ∧ bits .xor .u8 (b : Int) (bitOf i) = (c : Int) ∧ ∀ d, d < 8 → dotD (c : Int) d = (dotD (b : Int) d != decide (d = i % 8)) := by
  have hp : 2 ^ (7 - i % 8) < 256 := by
    have : 2 ^ (7 - i % 8) < 2 ^ 8 := Nat.pow_lt_pow_right (by omega) (by omega)
    omega
  have hc : b ^^^ 2 ^ (7 - i % 8) < 256 := Nat.xor_lt_two_pow (n := 8) hb hp
  refine ⟨b ^^^ 2 ^ (7 - i % 8), hc, by rw [bitOf_pow, u8_xor_nat _ _ hb hp], fun d hd => ?_⟩
  rw [(dotD_test hc hd).1, (dotD_test hb hd).1, Nat.testBit_xor, Nat.testBit_two_pow]
  have : decide (7 - i % 8 = 7 - d) = decide (d = i % 8) := decide_eq_decide.2 (by omega)
  rw [this]
theorem getD_set' (l : List Int) (j k : Nat) (x : Int) (hj : j < l.length) : (l.set j x).getD k 0 = if j = k then x else l.getD k 0 := by
  simp only [List.getD_eq_getElem?_getD, List.getElem?_set]
  split
  · rename_i h; subst h; simp [hj]
  · rfl
structure Good (l : List Int) : Prop where
  len : l.length = 256
  byte : ByteN l
theorem putDot_good {st : Bool × List Int} (h : Good st.2) (i j : Nat) : Good (putDot st i j).2 := by
  refine ⟨by rw [putDot_length]; exact h.len, ?_⟩
  unfold putDot
  split
  · exact h.byte
  · intro x hx
    rcases List.mem_or_eq_of_mem_set hx with hx | rfl
    · exact h.byte x hx
    · obtain ⟨b, hb, e⟩ := h.byte.at (j * 8 + i / 8)
      obtain ⟨c, hc, e2, _⟩ := xor_byte (i := i) hb
      exact ⟨c, hc, by rw [e, e2]⟩
theorem putDot_pix {st : Bool × List Int} (h : Good st.2) {i j i' j' : Nat} (hi : i' < 64) (hj : j' < 32) : pix (putDot st i j).2 i' j' = (pix st.2 i' j' != decide (i = i' ∧ j = j')) := by
  unfold putDot
  split
  · rw [decide_eq_false (by omega), Bool.bne_false]
  · rename_i hn
    have hl := h.len
    unfold pix
    rw [getD_set' _ _ _ _ (by omega)]
    split
    · rename_i he
      obtain ⟨b, hb, e⟩ := h.byte.at (j * 8 + i / 8)
      obtain ⟨c, hc, e2, e3⟩ := xor_byte (i := i) hb
      rw [e, e2, e3 _ (by omega), ← he, e]
      exact congrArg _ (decide_eq_decide.2 (by omega))
    · rename_i he
      rw [decide_eq_false (fun hc => he (by omega)), Bool.bne_false]
theorem putDot_gone (st : Bool × List Int) (i j : Nat) : (putDot st i j).1 = (st.1 || (decide (i < 64 ∧ j < 32) && pix st.2 i j)) := by
  unfold putDot
  split
  · rw [decide_eq_false (by omega), Bool.false_and, Bool.or_false]
  · rw [show decide (i < 64 ∧ j < 32) = true from decide_eq_true (by omega), Bool.true_and]
    show (st.1 || dotD (st.2.getD (j * 8 + i / 8) 0) (i % 8)) = _
    rw [pix, Nat.mul_comm 8 j]
theorem eachI_good {b : Int} {x y : Nat} {st : Bool × List Int} (h : Good st.2) : ∀ m, Good (eachI b x y st m).2
  | 0 => h
  | m + 1 => by
    rw [eachI]
    split
    · exact putDot_good (eachI_good h m) _ _
    · exact eachI_good h m
theorem eachI_pix {b : Int} {x y : Nat} {st : Bool × List Int} (h : Good st.2) {i' j' : Nat} (hi : i' < 64) (hj : j' < 32) : ∀ m, pix (eachI b x y st m).2 i' j' = (pix st.2 i' j' != (decide (y = j' ∧ x ≤ i' ∧ i' < x + m) && dotB b (i' - x)))
  | 0 => by rw [decide_eq_false (by omega), Bool.false_and, Bool.bne_false]; rfl
  | m + 1 => by
    have ih := eachI_pix (b := b) (x := x) (y := y) h hi hj m
    rw [eachI]
    by_cases hc : x + m = i' ∧ y = j'
    · have e1 : i' - x = m := by omega
      have e2 : decide (y = j' ∧ x ≤ i' ∧ i' < x + m) = false := decide_eq_false (by omega)
      have e3 : decide (y = j' ∧ x ≤ i' ∧ i' < x + (m + 1)) = true := decide_eq_true (by omega)
      rw [e2, Bool.false_and, Bool.bne_false] at ih
      rw [e3, Bool.true_and, e1]
      split
      · rename_i hd
        rw [putDot_pix (eachI_good h m) hi hj, ih, decide_eq_true hc, hd]
      · rename_i hd
        rw [ih, Bool.eq_false_iff.2 hd, Bool.bne_false]
    · have e2 : decide (y = j' ∧ x ≤ i' ∧ i' < x + (m + 1)) = decide (y = j' ∧ x ≤ i' ∧ i' < x + m) := decide_eq_decide.2 (by omega)
      rw [e2, ← ih]
      split
      · rw [putDot_pix (eachI_good h m) hi hj, decide_eq_false hc, Bool.bne_false]
      · rfl
theorem eachI_gone {b : Int} {x y : Nat} {st : Bool × List Int} (h : Good st.2) : ∀ m, (eachI b x y st m).1 = (st.1 || (List.range m).any fun d => dotB b d && (decide (x + d < 64 ∧ y < 32) && pix st.2 (x + d) y))
  | 0 => by simp [eachI]
  | m + 1 => by
    rw [eachI, List.range_succ, List.any_append, ← Bool.or_assoc, ← eachI_gone h m]
    simp only [List.any_cons, List.any_nil, Bool.or_false]
    split
    · rename_i hd
      rw [putDot_gone, hd, Bool.true_and]
      by_cases hin : x + m < 64 ∧ y < 32
      · rw [eachI_pix h hin.1 hin.2, decide_eq_false (show ¬ (y = y ∧ x ≤ x + m ∧ x + m < x + m) by omega), Bool.false_and, Bool.bne_false]
      · rw [decide_eq_false hin, Bool.false_and, Bool.false_and]
    · rename_i hd
      rw [Bool.eq_false_iff.2 hd, Bool.false_and, Bool.or_false]
theorem eachK_good {rows : List Int} {x y : Nat} {st : Bool × List Int} (h : Good st.2) : ∀ k, Good (eachK rows x y st k).2
  | 0 => h
  | k + 1 => by rw [eachK]; exact eachI_good (eachK_good h k) 8
theorem eachK_pix {rows : List Int} {x y : Nat} {st : Bool × List Int} (h : Good st.2) {i' j' : Nat} (hi : i' < 64) (hj : j' < 32) : ∀ k, pix (eachK rows x y st k).2 i' j' = (pix st.2 i' j' != (decide (y ≤ j' ∧ j' < y + k ∧ x ≤ i' ∧ i' < x + 8) && dotB (rows.getD (j' - y) 0) (i' - x)))
  | 0 => by rw [decide_eq_false (by omega), Bool.false_and, Bool.bne_false]; rfl
  | k + 1 => by
    rw [eachK, eachI_pix (eachK_good h k) hi hj, eachK_pix h hi hj k]
    by_cases hc : y + k = j'
    · rw [decide_eq_false (show ¬ (y ≤ j' ∧ j' < y + k ∧ x ≤ i' ∧ i' < x + 8) by omega), Bool.false_and, Bool.bne_false, show j' - y = k by omega]
      refine congrArg _ (congrArg (· && _) (decide_eq_decide.2 (by omega)))
    · rw [decide_eq_false (show ¬ (y + k = j' ∧ x ≤ i' ∧ i' < x + 8) by omega), Bool.false_and, Bool.bne_false]
      refine congrArg _ (congrArg (· && _) (decide_eq_decide.2 (by omega)))
theorem eachK_gone {rows : List Int} {x y : Nat} {st : Bool × List Int} (h : Good st.2) : ∀ k, (eachK rows x y st k).1 = (st.1 || (List.range k).any fun k => (List.range 8).any fun d => dotB (rows.getD k 0) d && (decide (x + d < 64 ∧ y + k < 32) && pix st.2 (x + d) (y + k)))
  | 0 => by simp [eachK]
  | k + 1 => by
    rw [eachK, List.range_succ, List.any_append, ← Bool.or_assoc, ← eachK_gone h k, eachI_gone (eachK_good h k)]
    simp only [List.any_cons, List.any_nil, Bool.or_false]
    refine congrArg _ (List.any_congr rfl fun d => ?_) 
    by_cases hin : x + d < 64 ∧ y + k < 32
    · rw [eachK_pix h hin.1 hin.2, decide_eq_false (show ¬ (y ≤ y + k ∧ y + k < y + k ∧ x ≤ x + d ∧ x + d < x + 8) by omega), Bool.false_and, Bool.bne_false]
    · rw [decide_eq_false hin, Bool.false_and, Bool.false_and]
theorem page_ext {a b : List Int} (ha : Good a) (hb : Good b) (h : ∀ i j, i < 64 → j < 32 → pix a i j = pix b i j) : a = b := by
  refine list_eq_of (by rw [ha.len, hb.len]) fun k hk => ?_
  rw [ha.len] at hk
  rw [getD_some (by rw [ha.len]; exact hk), getD_some (by rw [hb.len]; exact hk)]
  obtain ⟨p, hp, e1⟩ := ha.byte.at k
  obtain ⟨q, hq, e2⟩ := hb.byte.at k
  rw [e1, e2]
  refine congrArg some (congrArg Nat.cast ?_)
  apply Nat.eq_of_testBit_eq
  intro i
  by_cases hi : i < 8
  · have h1 := h (k % 8 * 8 + (7 - i)) (k / 8) (by omega) (by omega)
    unfold pix at h1
    rw [show 8 * (k / 8) + (k % 8 * 8 + (7 - i)) / 8 = k by omega, show (k % 8 * 8 + (7 - i)) % 8 = 7 - i by omega, e1, e2, (dotD_test hp (by omega)).1, (dotD_test hq (by omega)).1, show 7 - (7 - i) = i by omega] at h1
    exact h1
  · have h256 : 256 ≤ 2 ^ i := by
      have := Nat.pow_le_pow_right (n := 2) (by omega) (show 8 ≤ i by omega)
      omega
    rw [Nat.testBit_lt_two_pow (by omega), Nat.testBit_lt_two_pow (by omega)]
def mine (x y : Nat) (rows : List Int) (i j : Nat) : Bool := decide (y % 32 ≤ j ∧ j < y % 32 + rows.length ∧ x % 64 ≤ i ∧ i < x % 64 + 8) && dotB (rows.getD (j - y % 32) 0) (i - x % 64)
theorem drawn_good {page rows : List Int} {x y : Nat} (h : Good page) : Good (drawn page x y rows).2 := eachK_good (st := (false, page)) h _
theorem drawn_pix {page rows : List Int} {x y : Nat} (h : Good page) {i j : Nat} (hi : i < 64) (hj : j < 32) : pix (drawn page x y rows).2 i j = (pix page i j != mine x y rows i j) := eachK_pix (st := (false, page)) h hi hj _
theorem any_range {n : Nat} {f g : Nat → Bool} (h : ∀ d, d < n → f d = g d) : (List.range n).any f = (List.range n).any g := by
  rw [Bool.eq_iff_iff, List.any_eq_true, List.any_eq_true]
  constructor
  · rintro ⟨d, hd, e⟩; exact ⟨d, hd, by rw [← h d (List.mem_range.1 hd)]; exact e⟩
  · rintro ⟨d, hd, e⟩; exact ⟨d, hd, by rw [h d (List.mem_range.1 hd)]; exact e⟩
theorem drawn_gone {page rows : List Int} {x y : Nat} (h : Good page) (hr : ByteN rows) : (drawn page x y rows).1 = went page x y rows := by
  have h1 := eachK_gone (rows := rows) (x := x % 64) (y := y % 32) (st := (false, page)) h rows.length
  rw [Bool.false_or] at h1
  rw [drawn, h1, went]
  refine List.any_congr rfl fun k => any_range fun d hd => ?_
  unfold hit
  rw [dotD_dotB hr k hd, pix]
  cases dotB (rows.getD k 0) d <;> simp [Bool.decide_and, Bool.and_assoc]
/-- The order of strokes does not matter. -/
theorem drawn_turn {page ra rb : List Int} {xa ya xb yb : Nat} (h : Good page) : (drawn (drawn page xa ya ra).2 xb yb rb).2 = (drawn (drawn page xb yb rb).2 xa ya ra).2 := by
  refine page_ext (drawn_good (drawn_good h)) (drawn_good (drawn_good h)) fun i j hi hj => ?_
  rw [drawn_pix (drawn_good h) hi hj, drawn_pix h hi hj, drawn_pix (drawn_good h) hi hj, drawn_pix h hi hj]
  cases pix page i j <;> cases mine xa ya ra i j <;> cases mine xb yb rb i j <;> rfl
theorem drawn_back {page ra : List Int} {xa ya : Nat} (h : Good page) : (drawn (drawn page xa ya ra).2 xa ya ra).2 = page := by
  refine page_ext (drawn_good (drawn_good h)) h fun i j hi hj => ?_
  rw [drawn_pix (drawn_good h) hi hj, drawn_pix h hi hj]
  cases pix page i j <;> cases mine xa ya ra i j <;> rfl

/-! ### The document's answer -/
def turnTo (l : List Int) : Nat → List Int
  | 0 => List.replicate 256 0
  | m + 1 => if l.getD m 0 = 35 ∧ m % 65 < 64 then (putDot (false, turnTo l m) (m % 65) (m / 65)).2 else turnTo l m
theorem zero_good : Good (List.replicate 256 0) := ⟨List.length_replicate .., fun x hx => ⟨0, by omega, (List.mem_replicate.1 hx).2⟩⟩
theorem turnTo_good (l : List Int) : ∀ m, Good (turnTo l m)
  | 0 => zero_good
  | m + 1 => by
    rw [turnTo]
    split
    · exact putDot_good (st := (false, turnTo l m)) (turnTo_good l m) _ _
    · exact turnTo_good l m
theorem dotD_zero {m : Nat} (hm : m < 8) : dotD 0 m = false := by
  have := (dotD_test (b := 0) (by omega) hm).1
  simpa using this
theorem turnTo_pix (l : List Int) {i j : Nat} (hi : i < 64) (hj : j < 32) : ∀ m, pix (turnTo l m) i j = decide (65 * j + i < m ∧ l.getD (65 * j + i) 0 = 35)
  | 0 => by
    rw [decide_eq_false (by omega), turnTo, pix, List.getD_eq_getElem?_getD, List.getElem?_replicate, if_pos (by omega)]
    exact dotD_zero (by omega)
  | m + 1 => by
    rw [turnTo]
    split
    · rename_i h
      rw [putDot_pix (st := (false, turnTo l m)) (turnTo_good l m) hi hj]
      show (pix (turnTo l m) i j != _) = _
      rw [turnTo_pix l hi hj m]
      by_cases he : 65 * j + i = m
      · rw [decide_eq_true (show m % 65 = i ∧ m / 65 = j by omega), decide_eq_false (show ¬ (65 * j + i < m ∧ l.getD (65 * j + i) 0 = 35) by omega), he, decide_eq_true (show m < m + 1 ∧ l.getD m 0 = 35 from ⟨by omega, h.1⟩)]
        rfl
      · rw [decide_eq_false (show ¬ (m % 65 = i ∧ m / 65 = j) by omega), Bool.bne_false]
        exact decide_eq_decide.2 (by omega)
    · rename_i h
      rw [turnTo_pix l hi hj m]
      refine decide_eq_decide.2 ⟨fun hh => ⟨by omega, hh.2⟩, fun hh => ⟨?_, hh.2⟩⟩
      by_cases he : 65 * j + i = m
      · exact absurd ⟨by rw [← he]; exact hh.2, by omega⟩ h
      · omega
def readRef (l : List Int) : Option (List Int) := if l.length = 2080 ∧ showTo (turnTo l 2080) 256 = l then some (turnTo l 2080) else none
theorem Byte.good {l : List Int} (hl : l.length = 256) (h : Byte l) : Good l := ⟨hl, Byte.toN h⟩
theorem Good.toB {l : List Int} (h : Good l) : Byte l := fun x hx => by
  obtain ⟨b, hb, rfl⟩ := h.byte x hx
  omega
theorem readTo_turn {l out : List Int} (hl : l.length = 2080) (h : readTo l 2080 = some out) : out = turnTo l 2080 := by
  have hg : Good out := Byte.good (readTo_length h) (read_byte h)
  refine page_ext hg (turnTo_good l 2080) fun i j hi hj => ?_
  rw [turnTo_pix l hi hj, pix, dotD_dotB hg.byte _ (by omega), (back (Nat.le_refl _) h).dot _ _ (by omega) (by omega)]
  have hp : pos (8 * j + i / 8) (i % 8) = 65 * j + i := by unfold pos; omega
  rw [hp]
theorem readRef_eq (l : List Int) : readRef l = readAll l := by
  unfold readRef readAll
  by_cases hl : l.length = 2080
  · rw [if_pos hl]
    cases h : readTo l 2080 with
    | some out =>
      have e := readTo_turn hl h
      have h2 := read_back hl h
      rw [e] at h2
      rw [if_pos ⟨hl, h2⟩, e]
    | none =>
      refine if_neg fun hc => ?_
      have := there (turnTo_good l 2080).len (turnTo_good l 2080).toB
      rw [hc.2, h] at this
      cases this
  · rw [if_neg hl, if_neg fun h => hl h.1]
theorem chr_pix {page : List Int} (h : Good page) {i j : Nat} (hi : i < 64) (hj : j < 32) : chr page (65 * j + i) = if pix page i j then 35 else 46 := by
  rw [chr, if_neg (by omega), pix, dotD_dotB h.byte _ (by omega), show (65 * j + i) / 65 * 8 + (65 * j + i) % 65 / 8 = 8 * j + i / 8 by omega, show (65 * j + i) % 65 % 8 = i % 8 by omega]
theorem chr_end (page : List Int) (j : Nat) : chr page (65 * j + 64) = 10 := by rw [chr, if_pos (by omega)]
def chrs (page : List Int) (n : Nat) : List Int := (List.range n).map (chr page)
theorem chrs_succ (page : List Int) (n : Nat) : chrs page (n + 1) = chrs page n ++ [chr page n] := by simp [chrs, List.range_succ]
theorem chrs_len (page : List Int) (n : Nat) : (chrs page n).length = n := by simp [chrs]
theorem chrs_all (page : List Int) : chrs page 2080 = showTo page 256 := (showTo_eq page 256).symm
end Go.Proofs.YtcakdalajafmoaaDoor
