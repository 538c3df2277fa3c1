/- A part of the proof of PixieExactCardSaid. -/
import Derived.Test.YtnmidobpknghgaaDoorCW2
set_option linter.unusedVariables false
set_option linter.unusedSimpArgs false
namespace Go.Proofs.YtnmidobpknghgaaDoor
open Go.RowKit Go.SX
/-! The chip left alone: the beam goes once over the screen. -/
def nx (x : Ras) : Ras := step x.1 x.2.1 x.2.2.1 x.2.2.2 0 0 true false 0
def it (x : Ras) : Nat → Ras
  | 0 => x
  | i + 1 => nx (it x i)
abbrev okR (x : Ras) : Bool := okB x.1 x.2.1 x.2.2.2
theorem okB_of {l c g : Int} (h : (0 ≤ l ∧ l < 262 ∧ 0 ≤ c ∧ c < 14 ∧ 0 ≤ g ∧ g ≤ 8 ∧ (g = 0 ∨ 80 ≤ l ∧ l ≤ 207 ∧ g ≤ c - 2))) : okB l c g = true := decide_eq_true h
theorem of_okB {l c g : Int} (h : okB l c g = true) : (0 ≤ l ∧ l < 262 ∧ 0 ≤ c ∧ c < 14 ∧ 0 ≤ g ∧ g ≤ 8 ∧ (g = 0 ∨ 80 ≤ l ∧ l ≤ 207 ∧ g ≤ c - 2)) := of_decide_eq_true h
def cF (x : Ras) : Nat → Nat
  | 0 => 0
  | i + 1 => cF x i + if fB (it x i).1 (it x i).2.1 (it x i).2.2.2 = true then 1 else 0
def cI (x : Ras) : Nat → Nat
  | 0 => 0
  | i + 1 => cI x i + if iB (it x i).1 (it x i).2.1 (it x i).2.2.1 (it x i).2.2.2 = true then 1 else 0
theorem cF_le (x : Ras) : ∀ i, cF x i ≤ i
  | 0 => Nat.le_refl _
  | i + 1 => by have := cF_le x i; rw [cF]; split <;> omega
theorem cI_le (x : Ras) : ∀ i, cI x i ≤ i
  | 0 => Nat.le_refl _
  | i + 1 => by have := cI_le x i; rw [cI]; split <;> omega
def P (x : Ras) : Nat := 14 * x.1.toNat + x.2.1.toNat
theorem nx_eq {x : Ras} (h : okR x = true) : nx x = if x.2.1 + 1 = 14 then (if x.1 + 1 = 262 then 0 else x.1 + 1, 0, x.2.2.1, 0) else (x.1, x.2.1 + 1, x.2.2.1, x.2.2.2) := by
  obtain ⟨l, c, o, g⟩ := x
  have ht : tB l c o g 0 true = false := by simp [tB]
  have ho : onB o 0 true false 0 = o := by simp [onB]
  simp only [nx, step, ht, ho]
  rw [if_pos ⟨h, by decide⟩]
  simp
theorem nx_ok {x : Ras} (h : okR x = true) : okR (nx x) = true ∧ (nx x).2.2.1 = x.2.2.1 ∧ P (nx x) = (P x + 1) % 3668 := by
  rw [nx_eq h]
  obtain ⟨l, c, o, g⟩ := x
  have hk := of_okB h
  dsimp only at hk
  simp only [P]
  by_cases hc : c + 1 = 14
  · rw [if_pos hc]
    by_cases hl : l + 1 = 262
    · rw [if_pos hl]
      refine ⟨okB_of (by dsimp only; omega), rfl, ?_⟩
      simp only; omega
    · rw [if_neg hl]
      refine ⟨okB_of (by dsimp only; omega), rfl, ?_⟩
      simp only; omega
  · rw [if_neg hc]
    refine ⟨okB_of (by dsimp only; omega), rfl, ?_⟩
    simp only; omega
theorem P_lt {x : Ras} (h : okR x = true) : P x < 3668 := by
  obtain ⟨l, c, o, g⟩ := x
  have hk := of_okB h
  dsimp only at hk
  simp only [P]
  omega
theorem it_ok {x : Ras} (h : okR x = true) : ∀ i, okR (it x i) = true ∧ (it x i).2.2.1 = x.2.2.1 ∧ P (it x i) = (P x + i) % 3668
  | 0 => ⟨h, rfl, (Nat.mod_eq_of_lt (P_lt h)).symm⟩
  | i + 1 => by
    obtain ⟨h1, h2, h3⟩ := it_ok h i
    obtain ⟨h4, h5, h6⟩ := nx_ok h1
    exact ⟨h4, h5.trans h2, by rw [show it x (i + 1) = nx (it x i) from rfl, h6, h3]; omega⟩
def fP (p : Nat) : Bool := decide (76 ≤ p / 14 ∧ p / 14 ≤ 79 ∨ 204 ≤ p / 14 ∧ p / 14 ≤ 207)
def iP (p : Nat) : Bool := decide (78 ≤ p / 14 ∧ p / 14 ≤ 79)
theorem fB_P {x : Ras} (h : okR x = true) : fB x.1 x.2.1 x.2.2.2 = fP (P x) := by
  obtain ⟨l, c, o, g⟩ := x
  have hk := of_okB h
  dsimp only at hk h
  simp only [fB, h, P, fP, Bool.true_and]
  rw [← Bool.decide_or]
  exact decide_eq_decide.2 (by omega)
theorem iB_P {x : Ras} (h : okR x = true) : iB x.1 x.2.1 x.2.2.1 x.2.2.2 = (x.2.2.1 && iP (P x)) := by
  obtain ⟨l, c, o, g⟩ := x
  have hk := of_okB h
  dsimp only at hk h
  simp only [iB, h, P, iP, Bool.true_and]
  have e : decide (78 ≤ l ∧ l ≤ 79) = decide (78 ≤ (14 * l.toNat + c.toNat) / 14 ∧ (14 * l.toNat + c.toNat) / 14 ≤ 79) := decide_eq_decide.2 (by omega)
  rw [e]
  rfl
/-- How many of the places from p on, n of them, round and round. -/
def cnt (f : Nat → Bool) (p : Nat) : Nat → Nat
  | 0 => 0
  | n + 1 => cnt f p n + if f ((p + n) % 3668) = true then 1 else 0
theorem cnt_shift (f : Nat → Bool) (p : Nat) : ∀ n, cnt f (p + 1) n + (if f (p % 3668) = true then 1 else 0) = cnt f p n + if f ((p + n) % 3668) = true then 1 else 0
  | 0 => by simp [cnt]
  | n + 1 => by
    have := cnt_shift f p n
    simp only [cnt]
    rw [show p + 1 + n = p + (n + 1) by omega]
    omega
theorem cnt_round (f : Nat → Bool) : ∀ p, cnt f p 3668 = cnt f 0 3668
  | 0 => rfl
  | p + 1 => by
    have h := cnt_shift f p 3668
    rw [show (p + 3668) % 3668 = p % 3668 by omega] at h
    rw [← cnt_round f p]
    omega
set_option maxRecDepth 100000 in
theorem cnt_f : cnt fP 0 3668 = 112 := by kernel_rfl
set_option maxRecDepth 100000 in
theorem cnt_i : cnt iP 0 3668 = 28 := by kernel_rfl
theorem cF_cnt {x : Ras} (h : okR x = true) : ∀ n, cF x n = cnt fP (P x) n
  | 0 => rfl
  | n + 1 => by
    obtain ⟨h1, h2, h3⟩ := it_ok h n
    rw [cF, cnt, cF_cnt h n, fB_P h1, h3]
theorem cI_cnt {x : Ras} (h : okR x = true) : ∀ n, cI x n = if x.2.2.1 = true then cnt iP (P x) n else 0
  | 0 => by cases x.2.2.1 <;> rfl
  | n + 1 => by
    obtain ⟨h1, h2, h3⟩ := it_ok h n
    rw [cI, cnt, cI_cnt h n, iB_P h1, h2, h3]
    cases x.2.2.1 <;> simp
theorem flags_all {x : Ras} (h : okR x = true) : cF x 3668 = 112 := by rw [cF_cnt h, cnt_round, cnt_f]
theorem asks_all {x : Ras} (h : okR x = true) : cI x 3668 = if x.2.2.1 = true then 28 else 0 := by rw [cI_cnt h, cnt_round, cnt_i]
/-- Behind an order that switches it the chip is on or off, and may be so. -/
theorem step_on {l c : Int} {o on : Bool} {g m : Int} (h : okB l c g = true) (hm : m ≤ 3) (hon : m = 2 ∨ m = 3 → on = false) :
    okR (step l c o g 1 1 (!on) on m) = true ∧ (step l c o g 1 1 (!on) on m).2.2.1 = on := by
  have hk := of_okB h
  have ht : tB l c o g 1 (!on) = false := by simp [tB]
  have ho : onB o 1 (!on) on m = on := by
    unfold onB
    by_cases hm : m = 2 ∨ m = 3
    · rw [if_pos hm, hon hm]
    · rw [if_neg hm]; cases on <;> rfl
  rw [step, if_pos ⟨h, hm⟩, ht, ho]
  by_cases hc : c + 1 = 14
  · rw [if_pos hc]
    refine ⟨okB_of ?_, rfl⟩
    dsimp only
    by_cases hl : l + 1 = 262
    · rw [if_pos hl]; omega
    · rw [if_neg hl]; omega
  · rw [if_neg hc]
    refine ⟨okB_of (by simp only [Bool.false_eq_true, if_false]; omega), rfl⟩
end Go.Proofs.YtnmidobpknghgaaDoor
