/- A part of the proof of OpsWordsSaid. -/
import Derived.Test.YthhogfnghaikaaaCW5
set_option linter.unusedVariables false
set_option linter.unusedSimpArgs false
namespace Go.Proofs.Ythhogfnghaikaaa
open Go.RowKit Go.SX
theorem kinds_all : (table.all fun r => ((decide (r.mask = 61440) && decide (r.word % 4096 = 0)) || (decide (r.mask = 61455) && decide (r.word % 4096 < 16)) || (decide (r.mask = 61695) && decide (r.word % 4096 < 256)) || decide (r.mask = 65535)) && decide (1 ≤ r.op) && decide (r.op ≤ 31)) = true := by kernel_rfl
theorem kinds {r : RowT} (hr : r ∈ table) : ((r.mask = 61440 ∧ r.word % 4096 = 0) ∨ (r.mask = 61455 ∧ r.word % 4096 < 16) ∨ (r.mask = 61695 ∧ r.word % 4096 < 256) ∨ r.mask = 65535) ∧ 1 ≤ r.op ∧ r.op ≤ 31 := by
  have := List.all_eq_true.1 kinds_all r hr
  simp only [Bool.and_eq_true, Bool.or_eq_true, decide_eq_true_eq] at this
  omega
theorem chk_at {r : RowT} (hr : r ∈ table) {t : Nat} (ht : t < (rowN r).1) : encW (decO (r.word + t * (rowN r).2) r) r = r.word + t * (rowN r).2 := by
  have h1 := List.all_eq_true.1 chk_all r hr
  have h2 := List.all_eq_true.1 h1 (t / 16) (List.mem_range.2 (by omega))
  have h3 := List.all_eq_true.1 h2 (t % 16) (List.mem_range.2 (by omega))
  rw [show t / 16 * 16 + t % 16 = t by omega, Bool.or_eq_true, decide_eq_true_eq, beq_iff_eq] at h3
  exact h3.resolve_left (by omega)
/-- The word of an order that was read from a word. -/
theorem word_back {r : RowT} (hr : r ∈ table) {i : Nat} (hi : i < 65536) (h : i &&& r.mask = r.word) : encW (decO i r) r = i := by
  obtain ⟨m1, m2, m3, m4⟩ := masks hi
  have key : ∀ t, t < (rowN r).1 → i = r.word + t * (rowN r).2 → encW (decO i r) r = i := fun t ht e => by rw [e]; exact chk_at hr ht
  rcases (kinds hr).1 with ⟨hm, hw⟩ | ⟨hm, hw⟩ | ⟨hm, hw⟩ | hm
  · rw [hm] at h
    have e : rowN r = (4096, 1) := if_pos hm
    exact key (i % 4096) (by rw [e]; show _ < 4096; omega) (by rw [e]; show _ = _ + _ * 1; omega)
  · rw [hm] at h
    have e : rowN r = (256, 16) := by rw [rowN, if_neg (by omega), if_pos hm]
    exact key (i % 4096 / 16) (by rw [e]; show _ < 256; omega) (by rw [e]; show _ = _ + _ * 16; omega)
  · rw [hm] at h
    have e : rowN r = (16, 256) := by rw [rowN, if_neg (by omega), if_neg (by omega), if_pos hm]
    exact key (i % 4096 / 256) (by rw [e]; show _ < 16; omega) (by rw [e]; show _ = _ + _ * 256; omega)
  · rw [hm] at h
    have e : rowN r = (1, 1) := by rw [rowN, if_neg (by omega), if_neg (by omega), if_neg (by omega)]
    exact key 0 (by rw [e]; decide) (by omega)
theorem ops_nodup : (table.map RowT.op).Nodup := by decide
theorem ops_at {j k : Nat} {r r' : RowT} (hj : table[j]? = some r) (hk : table[k]? = some r') (e : r.op = r'.op) : j = k := by
  have hl := (List.getElem?_eq_some_iff.1 hj).1
  have e1 : (table.map RowT.op)[j]? = (table.map RowT.op)[k]? := by rw [List.getElem?_map, List.getElem?_map, hj, hk, Option.map_some, Option.map_some, e]
  exact (List.getElem?_inj (by rw [List.length_map]; exact hl) ops_nodup).1 e1
theorem decO_op (w : Nat) (r : RowT) : (decO w r).op = r.op := by
  have : ∀ (l : List Fd) (o : Ord), (l.foldl (fun o f => f.into o (fieldIn w f)) o).op = o.op := by
    intro l
    induction l with
    | nil => intro o; rfl
    | cons f l ih => intro o; rw [List.foldl_cons, ih]; cases f <;> rfl
  exact this _ _
/-- An order read from a word has just this word. -/
theorem encode_decode {i : Nat} (hi : i < 65536) {o : Ord} (h : decode i = some o) : encode o = some i ∧ 1 ≤ o.op ∧ o.op ≤ 31 := by
  unfold decode at h
  cases hr : rowOf i with
  | none => rw [hr] at h; cases h
  | some r =>
    have hm := List.mem_of_find?_eq_some hr
    have hw : i &&& r.mask = r.word := by
      have := @List.find?_some RowT (fun r => decide (i &&& r.mask = r.word)) r table hr
      exact of_decide_eq_true this
    have hd : decode i = some (decO i r) := by unfold decode; rw [hr]; rfl
    rw [hr] at h
    cases h
    have hop := decO_op i r
    have hb := word_back hm hi hw
    obtain ⟨k, hk⟩ := List.mem_iff_getElem?.1 hm
    refine ⟨?_, by rw [hop]; exact (kinds hm).2.1, by rw [hop]; exact (kinds hm).2.2⟩
    have := find_some (o := decO i r) hk ⟨hop.symm, by rw [hb]; exact hd⟩ (fun j hj r' hr' hc => by
      have := ops_at hr' hk (by rw [hc.1, hop])
      omega)
    rw [this, hb]
theorem encode_zero : encode zeroO = none := find_none fun j hj r hr hc => by
  have := (kinds (List.mem_iff_getElem?.2 ⟨j, hr⟩)).2.1
  have := hc.1
  simp only [zeroO] at this
  omega
/-- Whether a word is an order. -/
def isO (i : Nat) : Bool := (decode i).isSome
def ordP (i : Nat) : Bool :=
  match i / 4096 with
  | 5 => i % 16 == 0 | 9 => i % 16 == 0
  | 8 => i % 16 == 0 || i % 16 == 1 || i % 16 == 2 || i % 16 == 4 || i % 16 == 5
  | 14 => i % 256 == 0x9e || i % 256 == 0xa1
  | 15 => i % 256 == 0x07 || i % 256 == 0x0a || i % 256 == 0x15 || i % 256 == 0x18 || i % 256 == 0x1e || i % 256 == 0x29 || i % 256 == 0x33 || i % 256 == 0x55 || i % 256 == 0x65
  | _ => true
theorem isO_any (i : Nat) : isO i = table.any fun r => decide (i &&& r.mask = r.word) := by
  unfold isO decode rowOf
  rw [Option.isSome_map, Bool.eq_iff_iff, List.find?_isSome, List.any_eq_true]
theorem isO_ordP {i : Nat} (hi : i < 65536) : isO i = ordP i := by
  obtain ⟨m1, m2, m3, m4⟩ := masks hi
  rw [isO_any]
  simp only [table, List.any_cons, List.any_nil, m1, m2, m3, m4]
  unfold ordP
  have hq : i / 4096 < 16 := by omega
  have hl1 : i % 16 < 16 := by omega
  have hl2 : i % 256 < 256 := by omega
  have hl3 : ∀ n, i = n → i / 4096 = n / 4096 := fun n h => by rw [h]
  generalize i / 4096 = q at hq hl3
  generalize i % 16 = a at hl1
  generalize i % 256 = b at hl2
  clear m1 m2 m3 m4
  have h1 := hl3 224
  have h2 := hl3 238
  have : q = 0 ∨ q = 1 ∨ q = 2 ∨ q = 3 ∨ q = 4 ∨ q = 5 ∨ q = 6 ∨ q = 7 ∨ q = 8 ∨ q = 9 ∨ q = 10 ∨ q = 11 ∨ q = 12 ∨ q = 13 ∨ q = 14 ∨ q = 15 := by omega
  rcases this with rfl | rfl | rfl | rfl | rfl | rfl | rfl | rfl | rfl | rfl | rfl | rfl | rfl | rfl | rfl | rfl <;>
    simp at h1 h2 ⊢ <;> (try rw [Bool.eq_iff_iff]) <;> simp <;> omega
def cnt (n : Nat) : Nat := (List.range n).countP isO
theorem cnt_succ (n : Nat) : cnt (n + 1) = cnt n + if isO n then 1 else 0 := by
  unfold cnt
  rw [List.range_succ, List.countP_append, List.countP_singleton]
theorem cnt_le (n : Nat) : cnt n ≤ n := by
  have := List.countP_le_length (p := isO) (l := List.range n)
  rwa [List.length_range] at this
theorem countP_blocks (p : Nat → Bool) (n : Nat) : ∀ m, (List.range (m * n)).countP p = ((List.range m).map fun a => (List.range n).countP fun b => p (n * a + b)).sum
  | 0 => by simp
  | m + 1 => by
    rw [Nat.succ_mul, List.range_add, List.countP_append, countP_blocks p n m, List.range_succ, List.map_append, List.sum_append, List.countP_map]
    simp only [List.map_cons, List.map_nil, List.sum_cons, List.sum_nil, Nat.add_zero]
    congr 1
    refine congrFun (congrArg List.countP (funext fun b => ?_)) _
    show p (m * n + b) = p (n * m + b)
    rw [Nat.mul_comm]
set_option maxRecDepth 100000 in
theorem count_ord : ((List.range 32).map fun a => ((List.range 32).map fun c => (List.range 64).countP fun b => ordP (2048 * a + (64 * c + b))).sum).sum = 47024 := by kernel_rfl
theorem blocks2 (p : Nat → Bool) (k m n : Nat) : (List.range (k * (m * n))).countP p = ((List.range k).map fun a => ((List.range m).map fun c => (List.range n).countP fun b => p (m * n * a + (n * c + b))).sum).sum := by
  rw [countP_blocks]
  exact congrArg List.sum (List.map_congr_left fun a _ => countP_blocks _ _ _)
theorem cnt_all : cnt (32 * (32 * 64)) = 47024 := by
  have h1 : cnt (32 * (32 * 64)) = (List.range (32 * (32 * 64))).countP ordP := List.countP_congr fun i hi => by rw [isO_ordP (Nat.lt_of_lt_of_le (List.mem_range.1 hi) (by decide))]
  exact (h1.trans (blocks2 ordP 32 32 64)).trans count_ord
end Go.Proofs.Ythhogfnghaikaaa
