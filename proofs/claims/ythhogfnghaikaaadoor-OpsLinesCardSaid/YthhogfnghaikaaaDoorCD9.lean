/- A part of the proof of OpsLinesCardSaid. -/
import Derived.Test.YthhogfnghaikaaaDoorCD8
set_option linter.unusedVariables false
set_option linter.unusedSimpArgs false
namespace Go.Proofs.YthhogfnghaikaaaDoor
open Go.RowKit Go.SX Go.Proofs
theorem index_sep (c : UInt8) : ∀ (a b : List UInt8), c ∉ a → Lib.index (a ++ c :: b) [c] = a.length := fun a b h => by
  refine Lib.index_first (by simp) ?_ fun j hj => ?_
  · simp [Lib.occAt]
  · cases he : Lib.occAt (a ++ c :: b) [c] j
    · rfl
    · have := Lib.occAt_head rfl he
      rw [List.getElem?_append_left hj] at this
      exact (h (List.mem_of_getElem? this)).elim
theorem index_no (c : UInt8) : ∀ (a : List UInt8), c ∉ a → Lib.index a [c] = -1 := fun a h => by
  refine Lib.index_none fun j _ => ?_
  cases he : Lib.occAt a [c] j
  · rfl
  · exact (h (List.mem_of_getElem? (Lib.occAt_head rfl he))).elim
theorem ba_ext {a b : ByteArray} (h : a.data.toList = b.data.toList) : a = b := by
  cases a; cases b
  congr 1
  exact Array.ext' h
theorem app_data (a b : ByteArray) : (a ++ b).data.toList = a.data.toList ++ b.data.toList := by
  rw [ByteArray.data_append, Array.toList_append]
theorem words_cons (a b : ByteArray) (h : (32 : UInt8) ∉ a.data.toList) : words (a ++ (sp ++ b)) = a :: words b := by
  have hd : (a ++ (sp ++ b)).data.toList = a.data.toList ++ (32 : UInt8) :: b.data.toList := by rw [app_data, app_data]; rfl
  have hi : Lib.indexB (a ++ (sp ++ b)) sp = a.data.toList.length := by
    unfold Lib.indexB
    rw [hd]
    exact index_sep 32 _ _ h
  have e1 : (a ++ (sp ++ b)).extract 0 (a.data.toList.length + 0) = a := ba_ext (by rw [Lib.extract_from_zero, hd]; simp)
  have e2 : (a ++ (sp ++ b)).extract (a.data.toList.length + sp.size) (a ++ (sp ++ b)).size = b := ba_ext (by rw [Lib.extract_to_end, hd]; show List.drop (a.data.toList.length + 1) _ = _; rw [List.drop_append, List.drop_eq_nil_of_le (Nat.le_succ _), Nat.add_sub_cancel_left]; rfl)
  unfold words
  rw [Lib.countB_hit _ _ _ (by decide) hi, e2, Nat.add_comm, Lib.splitB_hit _ _ _ _ _ hi, e1, e2]
theorem words_one (a : ByteArray) (h : (32 : UInt8) ∉ a.data.toList) : words a = [a] := by
  unfold words
  exact Lib.splitB_miss _ _ _ _ (index_no 32 _ h)
/-- A word of a field. -/
def fieldW (o : Ord) (f : Fd) : ByteArray := f.ahead ++ hexS (f.of o) f.dig
theorem fieldS_eq (o : Ord) (f : Fd) : fieldS o f = sp ++ fieldW o f := by unfold fieldS fieldW sp; exact ByteArray.append_assoc
theorem dg_not (k : Nat) : ∀ b, b ∈ [UInt8.ofNat (dg k).toNat] → b ≠ 32 := by
  have key : ∀ j, j < 16 → UInt8.ofNat (dg j).toNat ≠ 32 := by decide
  intro b hb
  rw [List.mem_singleton.1 hb]
  have h := key (k % 16) (Nat.mod_lt _ (by decide))
  unfold dg at h ⊢
  rwa [Nat.mod_mod] at h
theorem hexS_data (n k : Nat) : (hexS n k).data.toList = (hexF n k).map fun x => UInt8.ofNat x.toNat := by simp [hexS, txt]
theorem hexS_not : ∀ (k n : Nat), (32 : UInt8) ∉ (hexS n k).data.toList := fun k => by
  induction k with
  | zero => intro n h; rw [hexS_data] at h; simp [hexF] at h
  | succ k ih =>
    intro n h
    rw [hexS_data, hexF, List.map_append, List.mem_append] at h
    rcases h with h | h
    · exact ih (n / 16) (by rw [hexS_data]; exact h)
    · exact dg_not n _ h rfl
theorem fieldW_not (o : Ord) (f : Fd) : (32 : UInt8) ∉ (fieldW o f).data.toList := by
  unfold fieldW
  rw [app_data, List.mem_append]
  rintro (h | h)
  · cases f <;> simp [Fd.ahead] at h
  · exact hexS_not _ _ h
theorem names_plain : (table.all fun r => r.name.data.toList.all fun b => b != 32) = true := by kernel_rfl
theorem name_not {r : RowT} (h : r ∈ table) : (32 : UInt8) ∉ r.name.data.toList := fun hm => by
  have h1 := List.all_eq_true.1 names_plain r h
  have h2 := List.all_eq_true.1 h1 _ hm
  cases h2
theorem lineT_last (o : Ord) : ∀ (l : List Fd) (s t : ByteArray), l.foldl (fun s f => s ++ fieldS o f) (s ++ t) = s ++ l.foldl (fun s f => s ++ fieldS o f) t
  | [], s, t => rfl
  | f :: l, s, t => by
    simp only [List.foldl_cons]
    rw [ByteArray.append_assoc, lineT_last o l]
theorem words_fold (o : Ord) : ∀ (l : List Fd) (s : ByteArray), (32 : UInt8) ∉ s.data.toList → words (l.foldl (fun s f => s ++ fieldS o f) s) = s :: l.map (fieldW o)
  | [], s, h => words_one s h
  | f :: l, s, h => by
    rw [List.foldl_cons, lineT_last, fieldS_eq, lineT_last, words_cons _ _ h, words_fold o l _ (fieldW_not o f)]
    rfl
theorem words_line {o : Ord} {r : RowT} (h : r ∈ table) : words (lineF o r) = r.name :: r.fs.map (fieldW o) := by
  unfold lineF lineT
  rw [List.take_length]
  exact words_fold o _ _ (name_not h)
theorem numF_app : ∀ (l r : List UInt8) (n : Nat), numF (l ++ r) n = (numF l n).bind (numF r)
  | [], r, n => rfl
  | b :: l, r, n => by
    rw [List.cons_append, numF, numF]
    split
    · exact numF_app l r _
    · rfl
theorem hexV_dg (v : Nat) : hexV (UInt8.ofNat (dg v).toNat).toNat = some (v % 16) := by
  have key : ∀ j, j < 16 → hexV (UInt8.ofNat (dg j).toNat).toNat = some (j % 16) := by decide
  have h := key (v % 16) (Nat.mod_lt _ (by decide))
  unfold dg at h ⊢
  simpa [Nat.mod_mod] using h
theorem numF_hex : ∀ (k v n : Nat), v < 16 ^ k → numF ((hexF v k).map fun x => UInt8.ofNat x.toNat) n = some (n * 16 ^ k + v)
  | 0, v, n, h => by
    have : v = 0 := by simpa using h
    subst this
    simp [hexF, numF]
  | k + 1, v, n, h => by
    rw [hexF, List.map_append, numF_app, numF_hex k (v / 16) n (by rw [Nat.pow_succ] at h; omega)]
    simp only [Option.bind_some, List.map_cons, List.map_nil, numF, hexV_dg]
    congr 1
    rw [Nat.pow_succ, Nat.add_mul, Nat.mul_assoc]
    omega
theorem numS_hex {k v : Nat} (h1 : 1 ≤ k) (h4 : k ≤ 4) (hv : v < 16 ^ k) : numS (hexS v k) = some v := by
  unfold numS
  rw [if_pos (by rw [hexS_size]; omega), hexS_data, numF_hex k v 0 hv, Nat.zero_mul, Nat.zero_add]
theorem trim_field (o : Ord) (f : Fd) : trimP (fieldW o f) f.ahead = hexS (f.of o) f.dig := by
  unfold trimP fieldW Lib.trimPrefix Lib.hasPrefix
  rw [app_data, if_pos (by simp)]
  exact ba_ext (by simp)
/-- What is read again. -/
theorem parT_line {w : Nat} {o : Ord} {r : RowT} (hr : rowOf w = some r) (hd : decode w = some o) : ∀ j, j ≤ r.fs.length → parT (words (lineF o r)) r j = (r.fs.take j).foldl (fun q f => f.into q (f.of o)) ⟨r.op, 0, 0, 0, 0, 0⟩
  | 0, _ => rfl
  | j + 1, hj => by
    have hf : r.fs[j]? = some r.fs[j] := List.getElem?_eq_getElem (by omega)
    have hm : r.fs[j] ∈ r.fs := List.getElem_mem _
    have hg : (words (lineF o r)).getD (j + 1) ⟨#[]⟩ = fieldW o r.fs[j] := by
      rw [words_line (row_mem hr), List.getD_eq_getElem?_getD, List.getElem?_cons_succ, List.getElem?_map, hf]
      rfl
    rw [parT_succ hf, parT_line hr hd j (by omega), hg, trim_field, numS_hex (dig_ok _).1 (dig_ok _).2 (row_range hr hd hm), List.take_add_one, hf, List.foldl_append]
    rfl
theorem parO_line {w : Nat} {o : Ord} {r : RowT} (hr : rowOf w = some r) (hd : decode w = some o) : parO (words (lineF o r)) r = o := by
  have ho : o = decO w r := by
    have := hd
    unfold decode at this
    rw [hr] at this
    exact (Option.some.inj this).symm
  have hx := fieldIn_lt w .x; have hy := fieldIn_lt w .y; have hn := fieldIn_lt w .n; have hb := fieldIn_lt w .b; have ha := fieldIn_lt w .a
  unfold parO
  rw [parT_line hr hd _ (Nat.le_refl _), List.take_length]
  have ho2 : o = r.fs.foldl (fun q f => f.into q (fieldIn w f)) ⟨r.op, 0, 0, 0, 0, 0⟩ := by rw [ho]; unfold decO decT; rw [List.take_length]
  simp only [Fd.dig] at hx hy hn hb ha
  rcases fs_cases (row_mem hr) with h | h | h | h | h | h <;> rw [h] at ho2 ⊢ <;> simp only [List.foldl_cons, List.foldl_nil, Fd.into] at ho2 ⊢ <;> subst ho2 <;> simp only [Fd.of] <;> (try rfl) <;> simp only [Ord.mk.injEq, Nat.mod_mod, true_and, and_true]
theorem names_apart : ((List.range table.length).all fun i => (List.range table.length).all fun j => i == j || decide ((table.map (·.name))[i]? ≠ (table.map (·.name))[j]?)) = true := by kernel_rfl
theorem name_one {r q : RowT} (hr : r ∈ table) (hq : q ∈ table) (h : r.name = q.name) : r = q := by
  obtain ⟨i, hi⟩ := List.mem_iff_getElem?.1 hr
  obtain ⟨j, hj⟩ := List.mem_iff_getElem?.1 hq
  have hil := (List.getElem?_eq_some_iff.1 hi).1
  have hjl := (List.getElem?_eq_some_iff.1 hj).1
  have h1 := List.all_eq_true.1 (List.all_eq_true.1 names_apart i (List.mem_range.2 hil)) j (List.mem_range.2 hjl)
  rw [Bool.or_eq_true] at h1
  rcases h1 with h2 | h2
  · rw [beq_iff_eq.1 h2, hj] at hi
    exact (Option.some.inj hi).symm
  · refine absurd ?_ (of_decide_eq_true h2)
    rw [List.getElem?_map, List.getElem?_map, hi, hj, Option.map_some, Option.map_some, h]
theorem parse_print {o : Ord} {w : Nat} (he : encode o = some w) : ∃ s, print o = some s ∧ parse s = some o ∧ s.size ≤ 31 := by
  obtain ⟨hd, hw⟩ := encode_some he
  obtain ⟨r, hr⟩ : ∃ r, rowOf w = some r := by
    cases hr : rowOf w with
    | none => unfold decode at hd; rw [hr] at hd; cases hd
    | some r => exact ⟨r, rfl⟩
  have hp : print o = some (lineF o r) := by unfold print; rw [he]; simp only [hr]; rfl
  have hm := row_mem hr
  refine ⟨_, hp, ?_, lineT_size hm (row_fs hr).2 _⟩
  obtain ⟨k, hk⟩ := List.mem_iff_getElem?.1 hm
  have hwl := words_line (o := o) hm
  have hyes : tryRow (lineF o r) r = some o := by
    unfold tryRow
    rw [parO_line hr hd, if_pos ⟨by rw [hwl]; rfl, by rw [hwl, List.length_cons, List.length_map, Nat.add_comm], hp⟩]
  unfold parse
  -- no other row has that name
  have hone : ∀ q ∈ table, q ≠ r → tryRow (lineF o r) q = none := fun q hq hne => by
    unfold tryRow
    refine if_neg fun h => hne (name_one hq hm ?_)
    rw [h.1, hwl]
    rfl
  have key : ∀ l : List RowT, (∀ q ∈ l, q ∈ table) → r ∈ l → l.findSome? (tryRow (lineF o r)) = some o := by
    intro l
    induction l with
    | nil => intro _ h; cases h
    | cons q l ih =>
      intro hl hrl
      rw [List.findSome?_cons]
      by_cases hqr : q = r
      · subst hqr; rw [hyes]
      · rw [hone q (hl q (List.mem_cons_self ..)) hqr]
        exact ih (fun p hp => hl p (List.mem_cons_of_mem _ hp)) (by rcases List.mem_cons.1 hrl with h | h; exact (hqr h.symm).elim; exact h)
  exact key table (fun _ h => h) hm
theorem parse_back {s : ByteArray} {o : Ord} (h : parse s = some o) : print o = some s ∧ OkO o := by
  unfold parse at h
  obtain ⟨r, hr, h1⟩ := List.exists_of_findSome?_eq_some h
  unfold tryRow at h1
  split at h1
  · rename_i hc
    cases h1
    obtain ⟨j, hj⟩ := List.mem_iff_getElem?.1 hr
    exact ⟨hc.2.2, parT_ok (table_in hj).1 _⟩
  · cases h1
theorem awake_enc : encode ⟨20, 1, 2, 15, 0, 0⟩ = some 53551 := by kernel_rfl
theorem awake_par : parse ⟨#[115, 101, 116, 32, 118, 97, 32, 48, 53]⟩ = some ⟨9, 10, 0, 0, 5, 0⟩ := by kernel_rfl
end Go.Proofs.YthhogfnghaikaaaDoor
