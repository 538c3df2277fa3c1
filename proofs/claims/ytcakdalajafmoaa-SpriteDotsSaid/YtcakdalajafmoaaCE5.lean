/- A part of the proof of SpriteDotsSaid. -/
import Derived.Test.YtcakdalajafmoaaCE3
set_option linter.unusedVariables false
set_option linter.unusedSimpArgs false
namespace Go.Proofs.Ytcakdalajafmoaa
open Go.RowKit Go.SX
/-- Whether f holds at one of the dots ahead of (i, j). -/
def anyB (f : Nat → Nat → Bool) (j i : Nat) : Bool := (List.range j).any (fun j' => (List.range 64).any (f j')) || (List.range i).any (f j)
theorem anyB_zero (f : Nat → Nat → Bool) : anyB f 0 0 = false := rfl
theorem anyB_succ (f : Nat → Nat → Bool) (j i : Nat) : anyB f j (i + 1) = (anyB f j i || f j i) := by
  unfold anyB
  rw [List.range_succ (n := i), List.any_append, Bool.or_assoc]
  simp
theorem anyB_row (f : Nat → Nat → Bool) (j : Nat) : anyB f (j + 1) 0 = anyB f j 64 := by
  unfold anyB
  rw [List.range_succ (n := j), List.any_append]
  simp
theorem anyB_true {f : Nat → Nat → Bool} {j i : Nat} (hj : j < 32) (hi : i < 64) (h : f j i = true) : anyB f 32 0 = true := by
  unfold anyB
  rw [Bool.or_eq_true]
  exact .inl (List.any_eq_true.2 ⟨j, List.mem_range.2 hj, List.any_eq_true.2 ⟨i, List.mem_range.2 hi, h⟩⟩)
theorem anyB_ex {f : Nat → Nat → Bool} (h : anyB f 32 0 = true) : ∃ j i, j < 32 ∧ i < 64 ∧ f j i = true := by
  unfold anyB at h
  rw [Bool.or_eq_true] at h
  rcases h with h | h
  · obtain ⟨j, hj, h⟩ := List.any_eq_true.1 h
    obtain ⟨i, hi, h⟩ := List.any_eq_true.1 h
    exact ⟨j, i, List.mem_range.1 hj, List.mem_range.1 hi, h⟩
  · simp at h
def fm (x y : Nat) (rows : List Int) (j i : Nat) : Bool := mine x y rows i j
def fo (page : List Int) (x y : Nat) (rows : List Int) (j i : Nat) : Bool := mine x y rows i j && pix page i j
theorem hit_mine {page rows : List Int} {x y k d : Nat} (hr : ByteN rows) (hk : k < rows.length) (hd : d < 8) : hit page x y rows k d = true ↔ x % 64 + d < 64 ∧ y % 32 + k < 32 ∧ fo page x y rows (y % 32 + k) (x % 64 + d) = true := by
  unfold hit fo mine pix
  rw [dotD_dotB hr k hd, show y % 32 + k - y % 32 = k by omega, show x % 64 + d - x % 64 = d by omega, decide_eq_true (show y % 32 ≤ y % 32 + k ∧ y % 32 + k < y % 32 + rows.length ∧ x % 64 ≤ x % 64 + d ∧ x % 64 + d < x % 64 + 8 by omega)]
  simp only [Bool.and_eq_true, decide_eq_true_eq, true_and]
  constructor
  · rintro ⟨⟨⟨h1, h2⟩, h3⟩, h4⟩; exact ⟨h2, h3, h1, h4⟩
  · rintro ⟨h2, h3, h1, h4⟩; exact ⟨⟨⟨h1, h2⟩, h3⟩, h4⟩
theorem went_any {page rows : List Int} {x y : Nat} (hr : ByteN rows) : went page x y rows = anyB (fo page x y rows) 32 0 := by
  rw [Bool.eq_iff_iff]
  constructor
  · intro h
    obtain ⟨k, hk, h⟩ := List.any_eq_true.1 h
    obtain ⟨d, hd, h⟩ := List.any_eq_true.1 h
    obtain ⟨h1, h2, h3⟩ := (hit_mine hr (List.mem_range.1 hk) (List.mem_range.1 hd)).1 h
    exact anyB_true h2 h1 h3
  · intro h
    obtain ⟨j, i, hj, hi, h⟩ := anyB_ex h
    have hm := h
    unfold fo mine at hm
    simp only [Bool.and_eq_true, decide_eq_true_eq] at hm
    obtain ⟨⟨⟨h1, h2, h3, h4⟩, _⟩, _⟩ := hm
    refine went_true (k := j - y % 32) (d := i - x % 64) (by omega) (by omega) ((hit_mine hr (by omega) (by omega)).2 ⟨by omega, by omega, ?_⟩)
    rw [show y % 32 + (j - y % 32) = j by omega, show x % 64 + (i - x % 64) = i by omega]
    exact h
theorem went_fm {page rows : List Int} {x y : Nat} (hr : ByteN rows) (h : went page x y rows = true) : anyB (fm x y rows) 32 0 = true := by
  rw [went_any hr] at h
  obtain ⟨j, i, hj, hi, h⟩ := anyB_ex h
  unfold fo at h
  rw [Bool.and_eq_true] at h
  exact anyB_true hj hi h.1
end Go.Proofs.Ytcakdalajafmoaa
