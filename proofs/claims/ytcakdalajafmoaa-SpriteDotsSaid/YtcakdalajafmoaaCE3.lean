/- A part of the proof of SpriteDotsSaid. -/
import Derived.Test.YtcakdalajafmoaaCE2
import Derived.Laws.BitsAllLaws
set_option linter.unusedVariables false
set_option linter.unusedSimpArgs false
namespace Go.Proofs.Ytcakdalajafmoaa
open Go.RowKit Go.SX
/-! ### The dots of a page -/
theorem dotD_all : ((List.range 256).all fun b => (List.range 8).all fun k => dotD ((b : Nat) : Int) k == b.testBit (7 - k) && (dotB ((b : Nat) : Int) k == b.testBit (7 - k))) = true := by kernel_rfl
theorem dotD_test {b k : Nat} (hb : b < 256) (hk : k < 8) : dotD (b : Int) k = b.testBit (7 - k) ∧ dotB (b : Int) k = b.testBit (7 - k) := by
  have h1 := List.all_eq_true.1 dotD_all b (List.mem_range.2 hb)
  have h2 := List.all_eq_true.1 h1 k (List.mem_range.2 hk)
  simpa using h2
theorem bitOf_all : ((List.range 8).all fun k => decide ((128 : Int).fdiv (2 ^ (min k 8)) = ((2 ^ (7 - k) : Nat) : Int))) = true := by kernel_rfl
theorem bitOf_pow (i : Nat) : bitOf i = ((2 ^ (7 - i % 8) : Nat) : Int) :=
  of_decide_eq_true (List.all_eq_true.1 bitOf_all (i % 8) (List.mem_range.2 (by omega)))
def ByteN (l : List Int) : Prop := ∀ x ∈ l, ∃ b : Nat, b < 256 ∧ x = (b : Int)
theorem Byte.toN {l : List Int} (h : Byte l) : ByteN l := fun x hx => ⟨x.toNat, by have := h x hx; omega, by have := h x hx; omega⟩
theorem ByteN.at {l : List Int} (h : ByteN l) (k : Nat) : ∃ b : Nat, b < 256 ∧ l.getD k 0 = (b : Int) := by
  by_cases hk : k < l.length
  · rw [List.getD_eq_getElem?_getD, List.getElem?_eq_getElem hk]
    exact h _ (List.getElem_mem hk)
  · rw [List.getD_eq_getElem?_getD, List.getElem?_eq_none (by omega)]
    exact ⟨0, by omega, rfl⟩
theorem dotD_dotB {l : List Int} (h : ByteN l) (k : Nat) {d : Nat} (hd : d < 8) : dotD (l.getD k 0) d = dotB (l.getD k 0) d := by
  obtain ⟨b, hb, e⟩ := h.at k
  rw [e, (dotD_test hb hd).1, (dotD_test hb hd).2]
def pix (page : List Int) (i j : Nat) : Bool := dotD (page.getD (8 * j + i / 8) 0) (i % 8)
theorem xor_byte {b i : Nat} (hb : b < 256) : ∃ c : Nat, c < 256 ∧ bits .xor .u8 (b : Int) (bitOf i) = (c : Int) ∧ ∀ d, d < 8 → dotD (c : Int) d = (dotD (b : Int) d != decide (d = i % 8)) := by
  have hp : 2 ^ (7 - i % 8) < 256 := by
    have : 2 ^ (7 - i % 8) < 2 ^ 8 := Nat.pow_lt_pow_right (by omega) (by omega)
    omega
  have hc : b ^^^ 2 ^ (7 - i % 8) < 256 := Nat.xor_lt_two_pow (n := 8) hb hp
  refine ⟨b ^^^ 2 ^ (7 - i % 8), hc, by rw [bitOf_pow, u8_xor_nat _ _ hb hp], fun d hd => ?_⟩
  rw [(dotD_test hc hd).1, (dotD_test hb hd).1, Nat.testBit_xor, Nat.testBit_two_pow]
  have : decide (7 - i % 8 = 7 - d) = decide (d = i % 8) := decide_eq_decide.2 (by omega)
  rw [this]
theorem getD_set' (l : List Int) (j k : Nat) (x : Int) (hj : j < l.length) : (l.set j x).getD k 0 = if j = k then x else l.getD k 0 := by
  simp only [List.getD_eq_getElem?_getD, List.getElem?_set]
  split
  · rename_i h; subst h; simp [hj]
  · rfl
structure Good (l : List Int) : Prop where
  len : l.length = 256
  byte : ByteN l
theorem putDot_good {st : Bool × List Int} (h : Good st.2) (i j : Nat) : Good (putDot st i j).2 := by
  refine ⟨by rw [putDot_length]; exact h.len, ?_⟩
  unfold putDot
  split
  · exact h.byte
  · intro x hx
    rcases List.mem_or_eq_of_mem_set hx with hx | rfl
    · exact h.byte x hx
    · obtain ⟨b, hb, e⟩ := h.byte.at (j * 8 + i / 8)
      obtain ⟨c, hc, e2, _⟩ := xor_byte (i := i) hb
      exact ⟨c, hc, by rw [e, e2]⟩
theorem putDot_pix {st : Bool × List Int} (h : Good st.2) {i j i' j' : Nat} (hi : i' < 64) (hj : j' < 32) : pix (putDot st i j).2 i' j' = (pix st.2 i' j' != decide (i = i' ∧ j = j')) := by
  unfold putDot
  split
  · rw [decide_eq_false (by omega), Bool.bne_false]
  · rename_i hn
    have hl := h.len
    unfold pix
    rw [getD_set' _ _ _ _ (by omega)]
    split
    · rename_i he
      obtain ⟨b, hb, e⟩ := h.byte.at (j * 8 + i / 8)
      obtain ⟨c, hc, e2, e3⟩ := xor_byte (i := i) hb
      rw [e, e2, e3 _ (by omega), ← he, e]
      exact congrArg _ (decide_eq_decide.2 (by omega))
    · rename_i he
      rw [decide_eq_false (fun hc => he (by omega)), Bool.bne_false]
theorem putDot_gone (st : Bool × List Int) (i j : Nat) : (putDot st i j).1 = (st.1 || (decide (i < 64 ∧ j < 32) && pix st.2 i j)) := by
  unfold putDot
  split
  · rw [decide_eq_false (by omega), Bool.false_and, Bool.or_false]
  · rw [show decide (i < 64 ∧ j < 32) = true from decide_eq_true (by omega), Bool.true_and]
    show (st.1 || dotD (st.2.getD (j * 8 + i / 8) 0) (i % 8)) = _
    rw [pix, Nat.mul_comm 8 j]
theorem eachI_good {b : Int} {x y : Nat} {st : Bool × List Int} (h : Good st.2) : ∀ m, Good (eachI b x y st m).2
  | 0 => h
  | m + 1 => by
    rw [eachI]
    split
    · exact putDot_good (eachI_good h m) _ _
    · exact eachI_good h m
theorem eachI_pix {b : Int} {x y : Nat} {st : Bool × List Int} (h : Good st.2) {i' j' : Nat} (hi : i' < 64) (hj : j' < 32) : ∀ m, pix (eachI b x y st m).2 i' j' = (pix st.2 i' j' != (decide (y = j' ∧ x ≤ i' ∧ i' < x + m) && dotB b (i' - x)))
  | 0 => by rw [decide_eq_false (by omega), Bool.false_and, Bool.bne_false]; rfl
  | m + 1 => by
    have ih := eachI_pix (b := b) (x := x) (y := y) h hi hj m
    rw [eachI]
    by_cases hc : x + m = i' ∧ y = j'
    · have e1 : i' - x = m := by omega
      have e2 : decide (y = j' ∧ x ≤ i' ∧ i' < x + m) = false := decide_eq_false (by omega)
      have e3 : decide (y = j' ∧ x ≤ i' ∧ i' < x + (m + 1)) = true := decide_eq_true (by omega)
      rw [e2, Bool.false_and, Bool.bne_false] at ih
      rw [e3, Bool.true_and, e1]
      split
      · rename_i hd
        rw [putDot_pix (eachI_good h m) hi hj, ih, decide_eq_true hc, hd]
      · rename_i hd
        rw [ih, Bool.eq_false_iff.2 hd, Bool.bne_false]
    · have e2 : decide (y = j' ∧ x ≤ i' ∧ i' < x + (m + 1)) = decide (y = j' ∧ x ≤ i' ∧ i' < x + m) := decide_eq_decide.2 (by omega)
      rw [e2, ← ih]
      split
      · rw [putDot_pix (eachI_good h m) hi hj, decide_eq_false hc, Bool.bne_false]
      · rfl
theorem eachI_gone {b : Int} {x y : Nat} {st : Bool × List Int} (h : Good st.2) : ∀ m, (eachI b x y st m).1 = (st.1 || (List.range m).any fun d => dotB b d && (decide (x + d < 64 ∧ y < 32) && pix st.2 (x + d) y))
  | 0 => by simp [eachI]
  | m + 1 => by
    rw [eachI, List.range_succ, List.any_append, ← Bool.or_assoc, ← eachI_gone h m]
    simp only [List.any_cons, List.any_nil, Bool.or_false]
    split
    · rename_i hd
      rw [putDot_gone, hd, Bool.true_and]
      by_cases hin : x + m < 64 ∧ y < 32
      · rw [eachI_pix h hin.1 hin.2, decide_eq_false (show ¬ (y = y ∧ x ≤ x + m ∧ x + m < x + m) by omega), Bool.false_and, Bool.bne_false]
      · rw [decide_eq_false hin, Bool.false_and, Bool.false_and]
    · rename_i hd
      rw [Bool.eq_false_iff.2 hd, Bool.false_and, Bool.or_false]
theorem eachK_good {rows : List Int} {x y : Nat} {st : Bool × List Int} (h : Good st.2) : ∀ k, Good (eachK rows x y st k).2
  | 0 => h
  | k + 1 => by rw [eachK]; exact eachI_good (eachK_good h k) 8
theorem eachK_pix {rows : List Int} {x y : Nat} {st : Bool × List Int} (h : Good st.2) {i' j' : Nat} (hi : i' < 64) (hj : j' < 32) : ∀ k, pix (eachK rows x y st k).2 i' j' = (pix st.2 i' j' != (decide (y ≤ j' ∧ j' < y + k ∧ x ≤ i' ∧ i' < x + 8) && dotB (rows.getD (j' - y) 0) (i' - x)))
  | 0 => by rw [decide_eq_false (by omega), Bool.false_and, Bool.bne_false]; rfl
  | k + 1 => by
    rw [eachK, eachI_pix (eachK_good h k) hi hj, eachK_pix h hi hj k]
    by_cases hc : y + k = j'
    · rw [decide_eq_false (show ¬ (y ≤ j' ∧ j' < y + k ∧ x ≤ i' ∧ i' < x + 8) by omega), Bool.false_and, Bool.bne_false, show j' - y = k by omega]
      refine congrArg _ (congrArg (· && _) (decide_eq_decide.2 (by omega)))
    · rw [decide_eq_false (show ¬ (y + k = j' ∧ x ≤ i' ∧ i' < x + 8) by omega), Bool.false_and, Bool.bne_false]
      refine congrArg _ (congrArg (· && _) (decide_eq_decide.2 (by omega)))
theorem eachK_gone {rows : List Int} {x y : Nat} {st : Bool × List Int} (h : Good st.2) : ∀ k, (eachK rows x y st k).1 = (st.1 || (List.range k).any fun k => (List.range 8).any fun d => dotB (rows.getD k 0) d && (decide (x + d < 64 ∧ y + k < 32) && pix st.2 (x + d) (y + k)))
  | 0 => by simp [eachK]
  | k + 1 => by
    rw [eachK, List.range_succ, List.any_append, ← Bool.or_assoc, ← eachK_gone h k, eachI_gone (eachK_good h k)]
    simp only [List.any_cons, List.any_nil, Bool.or_false]
    refine congrArg _ (List.any_congr rfl fun d => ?_) 
    by_cases hin : x + d < 64 ∧ y + k < 32
    · rw [eachK_pix h hin.1 hin.2, decide_eq_false (show ¬ (y ≤ y + k ∧ y + k < y + k ∧ x ≤ x + d ∧ x + d < x + 8) by omega), Bool.false_and, Bool.bne_false]
    · rw [decide_eq_false hin, Bool.false_and, Bool.false_and]
theorem page_ext {a b : List Int} (ha : Good a) (hb : Good b) (h : ∀ i j, i < 64 → j < 32 → pix a i j = pix b i j) : a = b := by
  refine list_eq_of (by rw [ha.len, hb.len]) fun k hk => ?_
  rw [ha.len] at hk
  rw [getD_some (by rw [ha.len]; exact hk), getD_some (by rw [hb.len]; exact hk)]
  obtain ⟨p, hp, e1⟩ := ha.byte.at k
  obtain ⟨q, hq, e2⟩ := hb.byte.at k
  rw [e1, e2]
  refine congrArg some (congrArg Nat.cast ?_)
  apply Nat.eq_of_testBit_eq
  intro i
  by_cases hi : i < 8
  · have h1 := h (k % 8 * 8 + (7 - i)) (k / 8) (by omega) (by omega)
    unfold pix at h1
    rw [show 8 * (k / 8) + (k % 8 * 8 + (7 - i)) / 8 = k by omega, show (k % 8 * 8 + (7 - i)) % 8 = 7 - i by omega, e1, e2, (dotD_test hp (by omega)).1, (dotD_test hq (by omega)).1, show 7 - (7 - i) = i by omega] at h1
    exact h1
  · have h256 : 256 ≤ 2 ^ i := by
      have := Nat.pow_le_pow_right (n := 2) (by omega) (show 8 ≤ i by omega)
      omega
    rw [Nat.testBit_lt_two_pow (by omega), Nat.testBit_lt_two_pow (by omega)]
def mine (x y : Nat) (rows : List Int) (i j : Nat) : Bool := decide (y % 32 ≤ j ∧ j < y % 32 + rows.length ∧ x % 64 ≤ i ∧ i < x % 64 + 8) && dotB (rows.getD (j - y % 32) 0) (i - x % 64)
theorem drawn_good {page rows : List Int} {x y : Nat} (h : Good page) : Good (drawn page x y rows).2 := eachK_good (st := (false, page)) h _
theorem drawn_pix {page rows : List Int} {x y : Nat} (h : Good page) {i j : Nat} (hi : i < 64) (hj : j < 32) : pix (drawn page x y rows).2 i j = (pix page i j != mine x y rows i j) := eachK_pix (st := (false, page)) h hi hj _
theorem any_range {n : Nat} {f g : Nat → Bool} (h : ∀ d, d < n → f d = g d) : (List.range n).any f = (List.range n).any g := by
  rw [Bool.eq_iff_iff, List.any_eq_true, List.any_eq_true]
  constructor
  · rintro ⟨d, hd, e⟩; exact ⟨d, hd, by rw [← h d (List.mem_range.1 hd)]; exact e⟩
  · rintro ⟨d, hd, e⟩; exact ⟨d, hd, by rw [h d (List.mem_range.1 hd)]; exact e⟩
theorem drawn_gone {page rows : List Int} {x y : Nat} (h : Good page) (hr : ByteN rows) : (drawn page x y rows).1 = went page x y rows := by
  have h1 := eachK_gone (rows := rows) (x := x % 64) (y := y % 32) (st := (false, page)) h rows.length
  rw [Bool.false_or] at h1
  rw [drawn, h1, went]
  refine List.any_congr rfl fun k => any_range fun d hd => ?_
  unfold hit
  rw [dotD_dotB hr k hd, pix]
  cases dotB (rows.getD k 0) d <;> simp [Bool.decide_and, Bool.and_assoc]
/-- The order of strokes does not matter. -/
theorem drawn_turn {page ra rb : List Int} {xa ya xb yb : Nat} (h : Good page) : (drawn (drawn page xa ya ra).2 xb yb rb).2 = (drawn (drawn page xb yb rb).2 xa ya ra).2 := by
  refine page_ext (drawn_good (drawn_good h)) (drawn_good (drawn_good h)) fun i j hi hj => ?_
  rw [drawn_pix (drawn_good h) hi hj, drawn_pix h hi hj, drawn_pix (drawn_good h) hi hj, drawn_pix h hi hj]
  cases pix page i j <;> cases mine xa ya ra i j <;> cases mine xb yb rb i j <;> rfl
theorem drawn_back {page ra : List Int} {xa ya : Nat} (h : Good page) : (drawn (drawn page xa ya ra).2 xa ya ra).2 = page := by
  refine page_ext (drawn_good (drawn_good h)) h fun i j hi hj => ?_
  rw [drawn_pix (drawn_good h) hi hj, drawn_pix h hi hj]
  cases pix page i j <;> cases mine xa ya ra i j <;> rfl
end Go.Proofs.Ytcakdalajafmoaa
