/- A part of the proof of OpsLinesCardSaid. -/
import Derived.Test.YthhogfnghaikaaaDoorCD6
set_option linter.unusedVariables false
set_option linter.unusedSimpArgs false
namespace Go.Proofs.YthhogfnghaikaaaDoor
open Go.RowKit Go.SX

/-! Print -/
theorem encode_some {o : Ord} {w : Nat} (h : encode o = some w) : decode w = some o ∧ w < 65536 := by
  unfold encode at h
  obtain ⟨r, hr, h1⟩ := List.exists_of_findSome?_eq_some h
  split at h1
  · rename_i hc
    cases h1
    obtain ⟨j, hj⟩ := List.mem_iff_getElem?.1 hr
    exact ⟨hc.2, encT_lt (table_in hj).2.2.1 _⟩
  · cases h1
theorem fs_all : (table.all fun r => decide (r.fs = [] ∨ r.fs = [.a] ∨ r.fs = [.x, .b] ∨ r.fs = [.x, .y] ∨ r.fs = [.x, .y, .n] ∨ r.fs = [.x])) = true := by kernel_rfl
theorem fs_cases {r : RowT} (h : r ∈ table) : r.fs = [] ∨ r.fs = [.a] ∨ r.fs = [.x, .b] ∨ r.fs = [.x, .y] ∨ r.fs = [.x, .y, .n] ∨ r.fs = [.x] := by simpa using List.all_eq_true.1 fs_all r h
theorem row_mem {w : Nat} {r : RowT} (h : rowOf w = some r) : r ∈ table := List.mem_of_find?_eq_some h
theorem fieldIn_lt (w : Nat) (f : Fd) : fieldIn w f < 16 ^ f.dig := by
  have : (2 : Nat) ^ (4 * f.dig) = 16 ^ f.dig := by cases f <;> rfl
  unfold fieldIn
  rw [this]
  exact Nat.mod_lt _ (Nat.pos_of_ne_zero (by cases f <;> decide))
theorem row_range {w : Nat} {r : RowT} {o : Ord} (hr : rowOf w = some r) (hd : decode w = some o) {f : Fd} (hf : f ∈ r.fs) : f.of o < 16 ^ f.dig := by
  have ho : o = decO w r := by
    unfold decode at hd
    rw [hr] at hd
    exact (Option.some.inj hd).symm
  have hx := fieldIn_lt w .x; have hy := fieldIn_lt w .y; have hn := fieldIn_lt w .n; have hb := fieldIn_lt w .b; have ha := fieldIn_lt w .a
  rw [ho]
  unfold decO decT
  rw [List.take_length]
  rcases fs_cases (row_mem hr) with h | h | h | h | h | h <;> rw [h] at hf ⊢ <;> simp only [List.mem_cons, List.mem_nil_iff, or_false] at hf
  · subst hf; simp only [List.foldl_cons, List.foldl_nil, Fd.into, Fd.of]; exact Nat.lt_of_le_of_lt (Nat.mod_le _ _) ha
  · rcases hf with rfl | rfl <;> simp only [List.foldl_cons, List.foldl_nil, Fd.into, Fd.of] <;> first | exact Nat.lt_of_le_of_lt (Nat.mod_le _ _) hx | exact Nat.lt_of_le_of_lt (Nat.mod_le _ _) hb
  · rcases hf with rfl | rfl <;> simp only [List.foldl_cons, List.foldl_nil, Fd.into, Fd.of] <;> first | exact Nat.lt_of_le_of_lt (Nat.mod_le _ _) hx | exact Nat.lt_of_le_of_lt (Nat.mod_le _ _) hy
  · rcases hf with rfl | rfl | rfl <;> simp only [List.foldl_cons, List.foldl_nil, Fd.into, Fd.of] <;> first | exact Nat.lt_of_le_of_lt (Nat.mod_le _ _) hx | exact Nat.lt_of_le_of_lt (Nat.mod_le _ _) hy | exact Nat.lt_of_le_of_lt (Nat.mod_le _ _) hn
  · subst hf; simp only [List.foldl_cons, List.foldl_nil, Fd.into, Fd.of]; exact Nat.lt_of_le_of_lt (Nat.mod_le _ _) hx
def fieldS (o : Ord) (f : Fd) : ByteArray := (⟨#[32]⟩ ++ f.ahead) ++ hexS (f.of o) f.dig
def lineT (o : Ord) (r : RowT) (j : Nat) : ByteArray := (r.fs.take j).foldl (fun s f => s ++ fieldS o f) r.name
def lineF (o : Ord) (r : RowT) : ByteArray := lineT o r r.fs.length
theorem lineT_succ {o : Ord} {r : RowT} {j : Nat} {f : Fd} (h : r.fs[j]? = some f) : lineT o r (j + 1) = lineT o r j ++ fieldS o f := by
  unfold lineT
  rw [List.take_add_one, h, List.foldl_append]
  rfl
def print (o : Ord) : Option ByteArray := match encode o with
  | none => none
  | some w => (rowOf w).map (lineF o)
theorem fieldS_size (o : Ord) (f : Fd) : (fieldS o f).size ≤ 5 := by
  have h1 : (hexS (f.of o) f.dig).size = f.dig := by unfold hexS; rw [txt_size, hexF_length]
  unfold fieldS
  rw [ByteArray.size_append, ByteArray.size_append, h1]
  cases f <;> decide
theorem foldl_size {o : Ord} : ∀ (l : List Fd) (s : ByteArray), (l.foldl (fun s f => s ++ fieldS o f) s).size ≤ s.size + 5 * l.length
  | [], s => by simp
  | f :: l, s => by
    have h := foldl_size (o := o) l (s ++ fieldS o f)
    have := fieldS_size o f
    rw [ByteArray.size_append] at h
    simp only [List.foldl_cons, List.length_cons]
    omega
theorem names_all : (table.all fun r => decide (r.name.size ≤ 16)) = true := by kernel_rfl
theorem lineT_size {o : Ord} {r : RowT} (hr : r ∈ table) (hl : r.fs.length ≤ 3) (j : Nat) : (lineT o r j).size ≤ 31 := by
  have h1 : r.name.size ≤ 16 := by simpa using List.all_eq_true.1 names_all r hr
  have h2 := foldl_size (o := o) (r.fs.take j) r.name
  have h3 : (r.fs.take j).length ≤ 3 := by rw [List.length_take]; omega
  have h4 : (lineT o r j).size ≤ r.name.size + 5 * (r.fs.take j).length := h2
  omega
theorem dig_ok (f : Fd) : 1 ≤ f.dig ∧ f.dig ≤ 4 := by cases f <;> decide
theorem ahead_size (f : Fd) : f.ahead.size ≤ 1 := by cases f <;> decide
theorem hexS_size (n k : Nat) : (hexS n k).size = k := by unfold hexS; rw [txt_size, hexF_length]
def printR (o : Ord) : Value := match print o with
  | some s => .tuple #[.string s, .int .i64 0]
  | none => .tuple #[.string ⟨#[]⟩, .int .i64 160]
set_option maxHeartbeats 1000000 in
set_option maxRecDepth 100000 in
theorem Print_spec {Γ : Ctx} (hP : Γ.P = Tryd.prog) {L : Hp} {o : Ord} (ho : OkO o) :
    SCall Γ 9 #[(.agg o.cells.toArray)] L (fun v L' => v = printR o ∧ L' = L) := by
  refine SCall.enter (n := 47) (res2 2 3) (hP ▸ Tryd.func9) rfl rfl (by simp) (res2_ok rfl) ?_
  refine SX.seq_k fun K1 hK1 => ?_
  refine SX.region_d [some 1, some 2, some 3] rfl (fun ops hops => ?_)
  unfold Dsts at hops
  simp (maxSteps := 1000000) (dsimp := false) (disch := omega) only [go_sem, add_addS, ia_someH, wu8, wu16, w32, wu32, wu64, w64, Nat.reduceEqDiff, Nat.reduceBEq, ↓reduceIte, reduceCtorEq, Int.reduceEq, Nat.reduceLT, Nat.reduceLeDiff, Nat.reduceAdd, Nat.reduceMul, Nat.reduceSub, Int.reduceToNat, Int.reduceLT, Int.reduceLE, Int.reduceAdd, Int.reduceSub, Int.reduceMul, Int.reduceNeg, Nat.reducePow, Int.reducePow, hP, ltT, ltF, leT, leF, eqT, eqF, hops]
  repeat' ((first | intro g0 | fail); try (with_reducible refine stI ?_); try simp (maxSteps := 1000000) (dsimp := false) (disch := omega) only [go_sem, add_addS, ia_someH, wu8, wu16, w32, wu32, wu64, w64, Nat.reduceEqDiff, Nat.reduceBEq, ↓reduceIte, reduceCtorEq, Int.reduceEq, Nat.reduceLT, Nat.reduceLeDiff, Nat.reduceAdd, Nat.reduceMul, Nat.reduceSub, Int.reduceToNat, Int.reduceLT, Int.reduceLE, Int.reduceAdd, Int.reduceSub, Int.reduceMul, Int.reduceNeg, Nat.reducePow, Int.reducePow, hP, ltT, ltF, leT, leF, eqT, eqF, hops])
  refine hK1 _ _ ?_
  try clear hK1 K1
  refine SX.seq_k fun K2 hK2 => ?_
  refine SX.region_d [some 12, some 13, some 11, some 14, some 15, some 4, some 5] rfl (fun ops hops => ?_)
  unfold Dsts at hops
  simp (maxSteps := 1000000) (dsimp := false) (disch := omega) only [go_sem, add_addS, ia_someH, wu8, wu16, w32, wu32, wu64, w64, Nat.reduceEqDiff, Nat.reduceBEq, ↓reduceIte, reduceCtorEq, Int.reduceEq, Nat.reduceLT, Nat.reduceLeDiff, Nat.reduceAdd, Nat.reduceMul, Nat.reduceSub, Int.reduceToNat, Int.reduceLT, Int.reduceLE, Int.reduceAdd, Int.reduceSub, Int.reduceMul, Int.reduceNeg, Nat.reducePow, Int.reducePow, hP, ltT, ltF, leT, leF, eqT, eqF, hops, Option.getD_none, Option.getD_some, Option.isSome_none, Option.isSome_some]
  refine ⟨_, Cell.at 0 rfl (show o.cells[0]? = _ from rfl), _, Cell.at 0 rfl (show o.cells[1]? = _ from rfl), _, Cell.at 0 rfl (show o.cells[2]? = _ from rfl), _, Cell.at 0 rfl (show o.cells[3]? = _ from rfl), _, Cell.at 0 rfl (show o.cells[4]? = _ from rfl), _, Cell.at 0 rfl (show o.cells[5]? = _ from rfl), ?_⟩
  try with_reducible refine stI ?_
  try simp (maxSteps := 1000000) (dsimp := false) (disch := omega) only [go_sem, add_addS, ia_someH, wu8, wu16, w32, wu32, wu64, w64, Nat.reduceEqDiff, Nat.reduceBEq, ↓reduceIte, reduceCtorEq, Int.reduceEq, Nat.reduceLT, Nat.reduceLeDiff, Nat.reduceAdd, Nat.reduceMul, Nat.reduceSub, Int.reduceToNat, Int.reduceLT, Int.reduceLE, Int.reduceAdd, Int.reduceSub, Int.reduceMul, Int.reduceNeg, Nat.reducePow, Int.reducePow, hP, ltT, ltF, leT, leF, eqT, eqF, hops, Option.getD_none, Option.getD_some, Option.isSome_none, Option.isSome_some]
  refine SCall.mono (Encode_spec (o := o) hP ho) ?_
  rintro v_ L_ ⟨hv_, hL_⟩
  rw [hv_, hL_]
  clear hv_ hL_ v_ L_
  rcases he : encode o with _ | w
  · skip
    try with_reducible refine stI ?_
    try with_reducible refine stI ?_
    try simp (maxSteps := 1000000) (dsimp := false) (disch := omega) only [go_sem, add_addS, ia_someH, wu8, wu16, w32, wu32, wu64, w64, Nat.reduceEqDiff, Nat.reduceBEq, ↓reduceIte, reduceCtorEq, Int.reduceEq, Nat.reduceLT, Nat.reduceLeDiff, Nat.reduceAdd, Nat.reduceMul, Nat.reduceSub, Int.reduceToNat, Int.reduceLT, Int.reduceLE, Int.reduceAdd, Int.reduceSub, Int.reduceMul, Int.reduceNeg, Nat.reducePow, Int.reducePow, hP, ltT, ltF, leT, leF, eqT, eqF, hops, Option.getD_none, Option.getD_some, Option.isSome_none, Option.isSome_some]
    refine hK2 _ _ ?_
    try clear hK2 K2
    refine SX.live [1, 4, 5] (fun T1 hT1 => ?_)
    simp only [forall_mem_cons', forall_mem_nil', go_sem, add_addS, ia_someH, wu8, wu16, w32, wu32, wu64, w64, Nat.reduceEqDiff, Nat.reduceBEq, ↓reduceIte, reduceCtorEq, Int.reduceEq, Nat.reduceLT, Nat.reduceLeDiff, Nat.reduceAdd, Nat.reduceMul, Nat.reduceSub, Int.reduceToNat, Int.reduceLT, Int.reduceLE, Int.reduceAdd, Int.reduceSub, Int.reduceMul, Int.reduceNeg, Nat.reducePow, Int.reducePow, hP, ltT, ltF, leT, leF, eqT, eqF] at hT1
    obtain ⟨h1_1, h1_4, h1_5⟩ := hT1
    refine SX.seq_k fun K3 hK3 => ?_
    refine SX.seq_k fun K4 hK4 => ?_
    refine SX.region_d [some 16, some 17] rfl (fun ops hops => ?_)
    unfold Dsts at hops
    simp (maxSteps := 1000000) (dsimp := false) (disch := omega) only [go_sem, add_addS, ia_someH, wu8, wu16, w32, wu32, wu64, w64, Nat.reduceEqDiff, Nat.reduceBEq, ↓reduceIte, reduceCtorEq, Int.reduceEq, Nat.reduceLT, Nat.reduceLeDiff, Nat.reduceAdd, Nat.reduceMul, Nat.reduceSub, Int.reduceToNat, Int.reduceLT, Int.reduceLE, Int.reduceAdd, Int.reduceSub, Int.reduceMul, Int.reduceNeg, Nat.reducePow, Int.reducePow, hP, h1_1, h1_4, h1_5, ltT, ltF, leT, leF, eqT, eqF, hops]
    repeat' ((first | refine And.intro (by omega) ?_ | fail); try (with_reducible refine stI ?_); try simp (maxSteps := 1000000) (dsimp := false) (disch := omega) only [go_sem, add_addS, ia_someH, wu8, wu16, w32, wu32, wu64, w64, Nat.reduceEqDiff, Nat.reduceBEq, ↓reduceIte, reduceCtorEq, Int.reduceEq, Nat.reduceLT, Nat.reduceLeDiff, Nat.reduceAdd, Nat.reduceMul, Nat.reduceSub, Int.reduceToNat, Int.reduceLT, Int.reduceLE, Int.reduceAdd, Int.reduceSub, Int.reduceMul, Int.reduceNeg, Nat.reducePow, Int.reducePow, hP, h1_1, h1_4, h1_5, ltT, ltF, leT, leF, eqT, eqF, hops])
    refine hK4 _ _ ?_
    try clear hK4 K4
    refine SX.cond_k fun X5 Y5 hX5 hY5 => ?_
    simp (maxSteps := 1000000) (dsimp := false) (disch := omega) only [go_sem, add_addS, ia_someH, wu8, wu16, w32, wu32, wu64, w64, Nat.reduceEqDiff, Nat.reduceBEq, ↓reduceIte, reduceCtorEq, Int.reduceEq, Nat.reduceLT, Nat.reduceLeDiff, Nat.reduceAdd, Nat.reduceMul, Nat.reduceSub, Int.reduceToNat, Int.reduceLT, Int.reduceLE, Int.reduceAdd, Int.reduceSub, Int.reduceMul, Int.reduceNeg, Nat.reducePow, Int.reducePow, hP, h1_1, h1_4, h1_5, ltT, ltF, leT, leF, eqT, eqF, condVC]
    refine hX5 ?_
    clear hX5 hY5 X5 Y5
    refine SX.seq_k fun K6 hK6 => ?_
    refine SX.region_d [some 18, some 2, some 3] rfl (fun ops hops => ?_)
    unfold Dsts at hops
    simp (maxSteps := 1000000) (dsimp := false) (disch := omega) only [go_sem, add_addS, ia_someH, wu8, wu16, w32, wu32, wu64, w64, Nat.reduceEqDiff, Nat.reduceBEq, ↓reduceIte, reduceCtorEq, Int.reduceEq, Nat.reduceLT, Nat.reduceLeDiff, Nat.reduceAdd, Nat.reduceMul, Nat.reduceSub, Int.reduceToNat, Int.reduceLT, Int.reduceLE, Int.reduceAdd, Int.reduceSub, Int.reduceMul, Int.reduceNeg, Nat.reducePow, Int.reducePow, hP, h1_1, h1_4, h1_5, ltT, ltF, leT, leF, eqT, eqF, hops]
    refine hK6 _ _ ?_
    try clear hK6 K6
    refine SX.ret ?_
    simp only [andThen_normal, andThen_ret, andThen_exit, inBlk_normal, inBlk_ret, inBlk_exit, Nat.reduceEqDiff, if_true, if_false, ↓reduceIte, retQ_ret]
    try simp only [res0, res1, res2, res3, stK_e, go_sem, add_addS, ia_someH, wu8, wu16, w32, wu32, wu64, w64, Nat.reduceEqDiff, Nat.reduceBEq, ↓reduceIte, reduceCtorEq, Int.reduceEq, Nat.reduceLT, Nat.reduceLeDiff, Nat.reduceAdd, Nat.reduceMul, Nat.reduceSub, Int.reduceToNat, Int.reduceLT, Int.reduceLE, Int.reduceAdd, Int.reduceSub, Int.reduceMul, Int.reduceNeg, Nat.reducePow, Int.reducePow, hP, h1_1, h1_4, h1_5, ltT, ltF, leT, leF, eqT, eqF]
    exact ⟨_, L, (by first | exact Less.refl _ | exact Less.drop _ _ | exact Less.drops (Less.drop _ _) | exact Less.drops (Less.drops (Less.drop _ _)) | exact Less.drops (Less.drops (Less.drops (Less.drop _ _))) | exact Less.drops (Less.drops (Less.drops (Less.drops (Less.drop _ _))))), rfl, by unfold printR print; rw [he]; exact ⟨rfl, rfl⟩⟩
  · skip
    try with_reducible refine stI ?_
    obtain ⟨hdec, hw⟩ := encode_some he
    obtain ⟨r, hr⟩ : ∃ r, rowOf w = some r := by
      cases hr : rowOf w with
      | none => unfold decode at hdec; rw [hr] at hdec; cases hdec
      | some r => exact ⟨r, rfl⟩
    have hrm := row_mem hr
    have hrl := (row_fs hr).2
    try with_reducible refine stI ?_
    try simp (maxSteps := 1000000) (dsimp := false) (disch := omega) only [go_sem, add_addS, ia_someH, wu8, wu16, w32, wu32, wu64, w64, Nat.reduceEqDiff, Nat.reduceBEq, ↓reduceIte, reduceCtorEq, Int.reduceEq, Nat.reduceLT, Nat.reduceLeDiff, Nat.reduceAdd, Nat.reduceMul, Nat.reduceSub, Int.reduceToNat, Int.reduceLT, Int.reduceLE, Int.reduceAdd, Int.reduceSub, Int.reduceMul, Int.reduceNeg, Nat.reducePow, Int.reducePow, hP, ltT, ltF, leT, leF, eqT, eqF, hops, Option.getD_none, Option.getD_some, Option.isSome_none, Option.isSome_some]
    refine hK2 _ _ ?_
    try clear hK2 K2
    refine SX.live [1, 4, 5] (fun T2 hT2 => ?_)
    simp only [forall_mem_cons', forall_mem_nil', go_sem, add_addS, ia_someH, wu8, wu16, w32, wu32, wu64, w64, Nat.reduceEqDiff, Nat.reduceBEq, ↓reduceIte, reduceCtorEq, Int.reduceEq, Nat.reduceLT, Nat.reduceLeDiff, Nat.reduceAdd, Nat.reduceMul, Nat.reduceSub, Int.reduceToNat, Int.reduceLT, Int.reduceLE, Int.reduceAdd, Int.reduceSub, Int.reduceMul, Int.reduceNeg, Nat.reducePow, Int.reducePow, hP, ltT, ltF, leT, leF, eqT, eqF] at hT2
    obtain ⟨h2_1, h2_4, h2_5⟩ := hT2
    refine SX.seq_k fun K7 hK7 => ?_
    refine SX.seq_k fun K8 hK8 => ?_
    refine SX.region_d [some 16, some 17] rfl (fun ops hops => ?_)
    unfold Dsts at hops
    simp (maxSteps := 1000000) (dsimp := false) (disch := omega) only [go_sem, add_addS, ia_someH, wu8, wu16, w32, wu32, wu64, w64, Nat.reduceEqDiff, Nat.reduceBEq, ↓reduceIte, reduceCtorEq, Int.reduceEq, Nat.reduceLT, Nat.reduceLeDiff, Nat.reduceAdd, Nat.reduceMul, Nat.reduceSub, Int.reduceToNat, Int.reduceLT, Int.reduceLE, Int.reduceAdd, Int.reduceSub, Int.reduceMul, Int.reduceNeg, Nat.reducePow, Int.reducePow, hP, h2_1, h2_4, h2_5, ltT, ltF, leT, leF, eqT, eqF, hops]
    repeat' ((first | refine And.intro (by omega) ?_ | fail); try (with_reducible refine stI ?_); try simp (maxSteps := 1000000) (dsimp := false) (disch := omega) only [go_sem, add_addS, ia_someH, wu8, wu16, w32, wu32, wu64, w64, Nat.reduceEqDiff, Nat.reduceBEq, ↓reduceIte, reduceCtorEq, Int.reduceEq, Nat.reduceLT, Nat.reduceLeDiff, Nat.reduceAdd, Nat.reduceMul, Nat.reduceSub, Int.reduceToNat, Int.reduceLT, Int.reduceLE, Int.reduceAdd, Int.reduceSub, Int.reduceMul, Int.reduceNeg, Nat.reducePow, Int.reducePow, hP, h2_1, h2_4, h2_5, ltT, ltF, leT, leF, eqT, eqF, hops])
    refine hK8 _ _ ?_
    try clear hK8 K8
    refine SX.cond_k fun X9 Y9 hX9 hY9 => ?_
    simp (maxSteps := 1000000) (dsimp := false) (disch := omega) only [go_sem, add_addS, ia_someH, wu8, wu16, w32, wu32, wu64, w64, Nat.reduceEqDiff, Nat.reduceBEq, ↓reduceIte, reduceCtorEq, Int.reduceEq, Nat.reduceLT, Nat.reduceLeDiff, Nat.reduceAdd, Nat.reduceMul, Nat.reduceSub, Int.reduceToNat, Int.reduceLT, Int.reduceLE, Int.reduceAdd, Int.reduceSub, Int.reduceMul, Int.reduceNeg, Nat.reducePow, Int.reducePow, hP, h2_1, h2_4, h2_5, ltT, ltF, leT, leF, eqT, eqF, condVC]
    refine hY9 ?_
    clear hX9 hY9 X9 Y9
    refine SX.skip ?_
    try simp only [andThen_normal, andThen_ret, andThen_exit, inBlk_normal, inBlk_ret, inBlk_exit, Nat.reduceEqDiff, if_true, if_false, ↓reduceIte]
    refine hK7 _ _ ?_
    try clear hK7 K7
    refine SX.seq_k fun K10 hK10 => ?_
    refine SX.region_d [some 20, some 21, some 19, some 22, some 23, some 6, none, some 7] rfl (fun ops hops => ?_)
    unfold Dsts at hops
    simp (maxSteps := 1000000) (dsimp := false) (disch := omega) only [go_sem, add_addS, ia_someH, wu8, wu16, w32, wu32, wu64, w64, Nat.reduceEqDiff, Nat.reduceBEq, ↓reduceIte, reduceCtorEq, Int.reduceEq, Nat.reduceLT, Nat.reduceLeDiff, Nat.reduceAdd, Nat.reduceMul, Nat.reduceSub, Int.reduceToNat, Int.reduceLT, Int.reduceLE, Int.reduceAdd, Int.reduceSub, Int.reduceMul, Int.reduceNeg, Nat.reducePow, Int.reducePow, hP, h2_1, h2_4, h2_5, ltT, ltF, leT, leF, eqT, eqF, hops]
    refine SCall.mono (rowOf_spec hP hw) ?_
    rintro v_ L_ h_
    rw [rowOfR, hr] at h_
    obtain ⟨H, fv, rfl, rfl, hfv⟩ := h_
    obtain ⟨FA, fc, hfe, hfc, hfA⟩ := id (hfv (some (g0, .cells o.cells.toArray 25 (0, 0)) :: L))
    subst hfe
    unfold RowT.cells
    try with_reducible refine stI ?_
    try simp (maxSteps := 1000000) (dsimp := false) (disch := omega) only [go_sem, add_addS, ia_someH, wu8, wu16, w32, wu32, wu64, w64, Nat.reduceEqDiff, Nat.reduceBEq, ↓reduceIte, reduceCtorEq, Int.reduceEq, Nat.reduceLT, Nat.reduceLeDiff, Nat.reduceAdd, Nat.reduceMul, Nat.reduceSub, Int.reduceToNat, Int.reduceLT, Int.reduceLE, Int.reduceAdd, Int.reduceSub, Int.reduceMul, Int.reduceNeg, Nat.reducePow, Int.reducePow, hP, h2_1, h2_4, h2_5, ltT, ltF, leT, leF, eqT, eqF, hops]
    intro g4
    try with_reducible refine stI ?_
    try simp (maxSteps := 1000000) (dsimp := false) (disch := omega) only [go_sem, add_addS, ia_someH, wu8, wu16, w32, wu32, wu64, w64, Nat.reduceEqDiff, Nat.reduceBEq, ↓reduceIte, reduceCtorEq, Int.reduceEq, Nat.reduceLT, Nat.reduceLeDiff, Nat.reduceAdd, Nat.reduceMul, Nat.reduceSub, Int.reduceToNat, Int.reduceLT, Int.reduceLE, Int.reduceAdd, Int.reduceSub, Int.reduceMul, Int.reduceNeg, Nat.reducePow, Int.reducePow, hP, h2_1, h2_4, h2_5, ltT, ltF, leT, leF, eqT, eqF, hops]
    refine ⟨0, _, _, _, rfl, by decide, .inr (by decide), ?_⟩
    try with_reducible refine stI ?_
    try simp (maxSteps := 1000000) (dsimp := false) (disch := omega) only [go_sem, add_addS, ia_someH, wu8, wu16, w32, wu32, wu64, w64, Nat.reduceEqDiff, Nat.reduceBEq, ↓reduceIte, reduceCtorEq, Int.reduceEq, Nat.reduceLT, Nat.reduceLeDiff, Nat.reduceAdd, Nat.reduceMul, Nat.reduceSub, Int.reduceToNat, Int.reduceLT, Int.reduceLE, Int.reduceAdd, Int.reduceSub, Int.reduceMul, Int.reduceNeg, Nat.reducePow, Int.reducePow, hP, h2_1, h2_4, h2_5, ltT, ltF, leT, leF, eqT, eqF, hops]
    refine hK10 _ _ ?_
    try clear hK10 K10
    refine SX.live [1, 6] (fun T3 hT3 => ?_)
    simp only [forall_mem_cons', forall_mem_nil', go_sem, add_addS, ia_someH, wu8, wu16, w32, wu32, wu64, w64, Nat.reduceEqDiff, Nat.reduceBEq, ↓reduceIte, reduceCtorEq, Int.reduceEq, Nat.reduceLT, Nat.reduceLeDiff, Nat.reduceAdd, Nat.reduceMul, Nat.reduceSub, Int.reduceToNat, Int.reduceLT, Int.reduceLE, Int.reduceAdd, Int.reduceSub, Int.reduceMul, Int.reduceNeg, Nat.reducePow, Int.reducePow, hP, h2_1, h2_4, h2_5, ltT, ltF, leT, leF, eqT, eqF] at hT3
    obtain ⟨h3_1, h3_6⟩ := hT3
    clear h2_1 h2_4 h2_5 T2
    refine SX.seq_k fun K11 hK11 => ?_
    refine SX.region_d [some 24, some 25, some 8] rfl (fun ops hops => ?_)
    unfold Dsts at hops
    simp (maxSteps := 1000000) (dsimp := false) (disch := omega) only [go_sem, add_addS, ia_someH, wu8, wu16, w32, wu32, wu64, w64, Nat.reduceEqDiff, Nat.reduceBEq, ↓reduceIte, reduceCtorEq, Int.reduceEq, Nat.reduceLT, Nat.reduceLeDiff, Nat.reduceAdd, Nat.reduceMul, Nat.reduceSub, Int.reduceToNat, Int.reduceLT, Int.reduceLE, Int.reduceAdd, Int.reduceSub, Int.reduceMul, Int.reduceNeg, Nat.reducePow, Int.reducePow, hP, h3_1, h3_6, ltT, ltF, leT, leF, eqT, eqF, hops]
    repeat' ((first | refine ⟨_, Cell.at 0 rfl rfl, ?_⟩ | refine ⟨_, Cell.at 1 rfl rfl, ?_⟩ | fail); try (with_reducible refine stI ?_); try simp (maxSteps := 1000000) (dsimp := false) (disch := omega) only [go_sem, add_addS, ia_someH, wu8, wu16, w32, wu32, wu64, w64, Nat.reduceEqDiff, Nat.reduceBEq, ↓reduceIte, reduceCtorEq, Int.reduceEq, Nat.reduceLT, Nat.reduceLeDiff, Nat.reduceAdd, Nat.reduceMul, Nat.reduceSub, Int.reduceToNat, Int.reduceLT, Int.reduceLE, Int.reduceAdd, Int.reduceSub, Int.reduceMul, Int.reduceNeg, Nat.reducePow, Int.reducePow, hP, h3_1, h3_6, ltT, ltF, leT, leF, eqT, eqF, hops])
    refine hK11 _ _ ?_
    try clear hK11 K11
    refine SX.seq_k fun K12 hK12 => ?_
    refine SX.seq_k fun K13 hK13 => ?_
    refine SX.region_d [some 26, some 27, some 28, some 29] rfl (fun ops hops => ?_)
    unfold Dsts at hops
    simp (maxSteps := 1000000) (dsimp := false) (disch := omega) only [go_sem, add_addS, ia_someH, wu8, wu16, w32, wu32, wu64, w64, Nat.reduceEqDiff, Nat.reduceBEq, ↓reduceIte, reduceCtorEq, Int.reduceEq, Nat.reduceLT, Nat.reduceLeDiff, Nat.reduceAdd, Nat.reduceMul, Nat.reduceSub, Int.reduceToNat, Int.reduceLT, Int.reduceLE, Int.reduceAdd, Int.reduceSub, Int.reduceMul, Int.reduceNeg, Nat.reducePow, Int.reducePow, hP, h3_1, h3_6, ltT, ltF, leT, leF, eqT, eqF, hops]
    repeat' ((first | refine ⟨_, Cell.at 0 rfl rfl, ?_⟩ | refine ⟨_, Cell.at 1 rfl rfl, ?_⟩ | refine And.intro (by omega) ?_ | fail); try (with_reducible refine stI ?_); try simp (maxSteps := 1000000) (dsimp := false) (disch := omega) only [go_sem, add_addS, ia_someH, wu8, wu16, w32, wu32, wu64, w64, Nat.reduceEqDiff, Nat.reduceBEq, ↓reduceIte, reduceCtorEq, Int.reduceEq, Nat.reduceLT, Nat.reduceLeDiff, Nat.reduceAdd, Nat.reduceMul, Nat.reduceSub, Int.reduceToNat, Int.reduceLT, Int.reduceLE, Int.reduceAdd, Int.reduceSub, Int.reduceMul, Int.reduceNeg, Nat.reducePow, Int.reducePow, hP, h3_1, h3_6, ltT, ltF, leT, leF, eqT, eqF, hops])
    refine hK13 _ _ ?_
    try clear hK13 K13
    refine SX.block ?_
    refine SX.live [1, 8, 27, 28, 29] (fun T4 hT4 => ?_)
    simp only [forall_mem_cons', forall_mem_nil', go_sem, add_addS, ia_someH, wu8, wu16, w32, wu32, wu64, w64, Nat.reduceEqDiff, Nat.reduceBEq, ↓reduceIte, reduceCtorEq, Int.reduceEq, Nat.reduceLT, Nat.reduceLeDiff, Nat.reduceAdd, Nat.reduceMul, Nat.reduceSub, Int.reduceToNat, Int.reduceLT, Int.reduceLE, Int.reduceAdd, Int.reduceSub, Int.reduceMul, Int.reduceNeg, Nat.reducePow, Int.reducePow, hP, h3_1, h3_6, ltT, ltF, leT, leF, eqT, eqF] at hT4
    obtain ⟨h4_1, h4_8, h4_27, h4_28, h4_29⟩ := hT4
    clear h3_1 h3_6 T3
    refine SX.loop_k (fun (ss : (Nat)) T L' => (fun (j : Nat) => T 8 = .string (lineT o r j) ∧ T 29 = .int .i64 (j : Int) ∧ T 1 = T4 1 ∧ T 27 = T4 27 ∧ T 28 = T4 28 ∧ L' = some (g4, .cells [.int .u8 (r.op : Int), .int .u16 (r.mask : Int), .int .u16 (r.word : Int), .string r.name, .slice FA r.fs.length fc].toArray 58 (0, 0)) :: (H ++ some (g0, .cells o.cells.toArray 25 (0, 0)) :: L) ∧ (j ≤ r.fs.length)) (ss)) (fun (ss : (Nat)) => (fun (j : Nat) => r.fs.length - j) (ss)) 0 ?_ ?_
    · try dsimp only
      refine ⟨?_, ?_, ?_, ?_, ?_, ?_, ?_⟩
      · first | exact h4_8 | (rw [h4_8]; rfl) | (rw [h4_8]; simp; done)
      · first | exact h4_29 | (rw [h4_29]; rfl) | (rw [h4_29]; simp; done)
      · rfl
      · rfl
      · rfl
      · rfl
      · exact Nat.zero_le _
    · intro j T5 L5 hI K14 hK14
      try dsimp only at hI hK14
      simp only [h4_1, h4_27, h4_28] at hI hK14
      obtain ⟨h5_8, h5_29, h5_1, h5_27, h5_28, hL5, hj⟩ := hI
      replace hL5 := hL5.symm
      subst hL5
      clear h4_1 h4_8 h4_27 h4_28 h4_29 T4
      refine SX.seq_k fun K15 hK15 => ?_
      refine SX.region_d [some 30] rfl (fun ops hops => ?_)
      unfold Dsts at hops
      simp (maxSteps := 1000000) (dsimp := false) (disch := omega) only [go_sem, add_addS, ia_someH, wu8, wu16, w32, wu32, wu64, w64, Nat.reduceEqDiff, Nat.reduceBEq, ↓reduceIte, reduceCtorEq, Int.reduceEq, Nat.reduceLT, Nat.reduceLeDiff, Nat.reduceAdd, Nat.reduceMul, Nat.reduceSub, Int.reduceToNat, Int.reduceLT, Int.reduceLE, Int.reduceAdd, Int.reduceSub, Int.reduceMul, Int.reduceNeg, Nat.reducePow, Int.reducePow, hP, h5_8, h5_29, h5_1, h5_27, h5_28, ltT, ltF, leT, leF, eqT, eqF, hops]
      repeat' ((first | refine And.intro (by omega) ?_ | fail); try (with_reducible refine stI ?_); try simp (maxSteps := 1000000) (dsimp := false) (disch := omega) only [go_sem, add_addS, ia_someH, wu8, wu16, w32, wu32, wu64, w64, Nat.reduceEqDiff, Nat.reduceBEq, ↓reduceIte, reduceCtorEq, Int.reduceEq, Nat.reduceLT, Nat.reduceLeDiff, Nat.reduceAdd, Nat.reduceMul, Nat.reduceSub, Int.reduceToNat, Int.reduceLT, Int.reduceLE, Int.reduceAdd, Int.reduceSub, Int.reduceMul, Int.reduceNeg, Nat.reducePow, Int.reducePow, hP, h5_8, h5_29, h5_1, h5_27, h5_28, ltT, ltF, leT, leF, eqT, eqF, hops])
      refine hK15 _ _ ?_
      try clear hK15 K15
      refine SX.seq_k fun K16 hK16 => ?_
      refine SX.cond_k fun X17 Y17 hX17 hY17 => ?_
      simp (maxSteps := 1000000) (dsimp := false) (disch := omega) only [go_sem, add_addS, ia_someH, wu8, wu16, w32, wu32, wu64, w64, Nat.reduceEqDiff, Nat.reduceBEq, ↓reduceIte, reduceCtorEq, Int.reduceEq, Nat.reduceLT, Nat.reduceLeDiff, Nat.reduceAdd, Nat.reduceMul, Nat.reduceSub, Int.reduceToNat, Int.reduceLT, Int.reduceLE, Int.reduceAdd, Int.reduceSub, Int.reduceMul, Int.reduceNeg, Nat.reducePow, Int.reducePow, hP, h5_8, h5_29, h5_1, h5_27, h5_28, ltT, ltF, leT, leF, eqT, eqF, condVC]
      refine ⟨fun hc30 => hX17 ?_, fun hc30 => hY17 ?_⟩
      · clear hX17 hY17 X17 Y17
        refine SX.skip ?_
        try simp only [andThen_normal, andThen_ret, andThen_exit, inBlk_normal, inBlk_ret, inBlk_exit, Nat.reduceEqDiff, if_true, if_false, ↓reduceIte]
        refine hK16 _ _ ?_
        try clear hK16 K16
        refine SX.seq_k fun K18 hK18 => ?_
        refine SX.block ?_
        refine SX.seq_k fun K19 hK19 => ?_
        have hjl : j < r.fs.length := by omega
        have hf0 : r.fs[j]? = some r.fs[j] := List.getElem?_eq_getElem hjl
        have hfm : r.fs[j] ∈ r.fs := List.getElem_mem hjl
        obtain ⟨fa, rfl, hcl0⟩ := hfA j _ hf0
        generalize r.fs[j] = f at hf0 hcl0 hfm
        have hcl : ∀ i u, f.cells[i]? = some u → Cell Γ (some (g4, .cells [.int .u8 (r.op : Int), .int .u16 (r.mask : Int), .int .u16 (r.word : Int), .string r.name, .slice (some fa) r.fs.length fc].toArray 58 (0, 0)) :: (H ++ some (g0, .cells o.cells.toArray 25 (0, 0)) :: L)) (fa.add (j * 5 + i)) u := fun i u h => by rw [← add_addS]; exact Cell.cons _ (hcl0 i u h)
        have hrg := row_range hr hdec hfm
        refine SX.region_d [some 31, some 32, some 10, none] rfl (fun ops hops => ?_)
        unfold Dsts at hops
        simp (maxSteps := 1000000) (dsimp := false) (disch := omega) only [go_sem, add_addS, ia_someH, wu8, wu16, w32, wu32, wu64, w64, Nat.reduceEqDiff, Nat.reduceBEq, ↓reduceIte, reduceCtorEq, Int.reduceEq, Nat.reduceLT, Nat.reduceLeDiff, Nat.reduceAdd, Nat.reduceMul, Nat.reduceSub, Int.reduceToNat, Int.reduceLT, Int.reduceLE, Int.reduceAdd, Int.reduceSub, Int.reduceMul, Int.reduceNeg, Nat.reducePow, Int.reducePow, hP, h5_8, h5_29, h5_1, h5_27, h5_28, ltT, ltF, leT, leF, eqT, eqF, hops]
        refine ⟨_, hcl 0 _ rfl, _, hcl 1 _ rfl, _, hcl 2 _ rfl, _, hcl 3 _ rfl, _, hcl 4 _ rfl, ?_⟩
        try with_reducible refine stI ?_
        try simp (maxSteps := 1000000) (dsimp := false) (disch := omega) only [go_sem, add_addS, ia_someH, wu8, wu16, w32, wu32, wu64, w64, Nat.reduceEqDiff, Nat.reduceBEq, ↓reduceIte, reduceCtorEq, Int.reduceEq, Nat.reduceLT, Nat.reduceLeDiff, Nat.reduceAdd, Nat.reduceMul, Nat.reduceSub, Int.reduceToNat, Int.reduceLT, Int.reduceLE, Int.reduceAdd, Int.reduceSub, Int.reduceMul, Int.reduceNeg, Nat.reducePow, Int.reducePow, hP, h5_8, h5_29, h5_1, h5_27, h5_28, ltT, ltF, leT, leF, eqT, eqF, hops]
        intro g8
        try with_reducible refine stI ?_
        try simp (maxSteps := 1000000) (dsimp := false) (disch := omega) only [go_sem, add_addS, ia_someH, wu8, wu16, w32, wu32, wu64, w64, Nat.reduceEqDiff, Nat.reduceBEq, ↓reduceIte, reduceCtorEq, Int.reduceEq, Nat.reduceLT, Nat.reduceLeDiff, Nat.reduceAdd, Nat.reduceMul, Nat.reduceSub, Int.reduceToNat, Int.reduceLT, Int.reduceLE, Int.reduceAdd, Int.reduceSub, Int.reduceMul, Int.reduceNeg, Nat.reducePow, Int.reducePow, hP, h5_8, h5_29, h5_1, h5_27, h5_28, ltT, ltF, leT, leF, eqT, eqF, hops]
        refine ⟨0, _, _, _, rfl, by simp, .inr (by decide), ?_⟩
        try with_reducible refine stI ?_
        try simp (maxSteps := 1000000) (dsimp := false) (disch := omega) only [go_sem, add_addS, ia_someH, wu8, wu16, w32, wu32, wu64, w64, Nat.reduceEqDiff, Nat.reduceBEq, ↓reduceIte, reduceCtorEq, Int.reduceEq, Nat.reduceLT, Nat.reduceLeDiff, Nat.reduceAdd, Nat.reduceMul, Nat.reduceSub, Int.reduceToNat, Int.reduceLT, Int.reduceLE, Int.reduceAdd, Int.reduceSub, Int.reduceMul, Int.reduceNeg, Nat.reducePow, Int.reducePow, hP, h5_8, h5_29, h5_1, h5_27, h5_28, ltT, ltF, leT, leF, eqT, eqF, hops]
        refine hK19 _ _ ?_
        try clear hK19 K19
        have hah := ahead_size f
        have hdg := dig_ok f
        have hhx := hexS_size (f.of o) f.dig
        have hls := lineT_size (o := o) hrm hrl j
        have h32 : ByteArray.size ⟨#[32]⟩ = 1 := rfl
        refine SX.quiet_d (hP ▸ T.mixed) (by kernel_rfl) [some 33, some 34, some 35, some 36, some 37, some 38, some 39, some 40, some 41, some 42, some 43, some 44, some 8] rfl (fun ops hops => ?_)
        unfold Dsts at hops
        simp (maxSteps := 1000000) (dsimp := false) (disch := omega) only [go_sem, add_addS, ia_someH, wu8, wu16, w32, wu32, wu64, w64, Nat.reduceEqDiff, Nat.reduceBEq, ↓reduceIte, reduceCtorEq, Int.reduceEq, Nat.reduceLT, Nat.reduceLeDiff, Nat.reduceAdd, Nat.reduceMul, Nat.reduceSub, Int.reduceToNat, Int.reduceLT, Int.reduceLE, Int.reduceAdd, Int.reduceSub, Int.reduceMul, Int.reduceNeg, Nat.reducePow, Int.reducePow, hP, h5_8, h5_29, h5_1, h5_27, h5_28, ltT, ltF, leT, leF, eqT, eqF, hops, callable_get, ByteArray.size_append]
        repeat' ((first | refine ⟨_, fun L0 hl0 => get_spec hP f ho (fun k u hu => GETC), ?_⟩ | refine ⟨_, fun L0 hl0 => Hex_spec hP hdg.1 hdg.2 hrg, ?_⟩ | refine ⟨_, get_spec hP f ho (fun k u hu => Cell.at (H.length + 2) (by rw [List.getElem?_cons_succ, List.getElem?_cons_succ]; exact get_mid _ _ _) hu), ?_⟩ | refine ⟨_, Hex_spec hP hdg.1 hdg.2 hrg, ?_⟩ | refine ⟨_, Cell.at 0 rfl rfl, ?_⟩ | refine ⟨_, Cell.at 1 rfl rfl, ?_⟩ | refine And.intro (by omega) ?_ | fail); try (with_reducible refine stI ?_); try simp (maxSteps := 1000000) (dsimp := false) (disch := omega) only [go_sem, add_addS, ia_someH, wu8, wu16, w32, wu32, wu64, w64, Nat.reduceEqDiff, Nat.reduceBEq, ↓reduceIte, reduceCtorEq, Int.reduceEq, Nat.reduceLT, Nat.reduceLeDiff, Nat.reduceAdd, Nat.reduceMul, Nat.reduceSub, Int.reduceToNat, Int.reduceLT, Int.reduceLE, Int.reduceAdd, Int.reduceSub, Int.reduceMul, Int.reduceNeg, Nat.reducePow, Int.reducePow, hP, h5_8, h5_29, h5_1, h5_27, h5_28, ltT, ltF, leT, leF, eqT, eqF, hops, callable_get, ByteArray.size_append])
        refine hK18 _ _ ?_
        try clear hK18 K18
        refine SX.live [1, 8, 27, 28, 29] (fun T6 hT6 => ?_)
        simp only [forall_mem_cons', forall_mem_nil', go_sem, add_addS, ia_someH, wu8, wu16, w32, wu32, wu64, w64, Nat.reduceEqDiff, Nat.reduceBEq, ↓reduceIte, reduceCtorEq, Int.reduceEq, Nat.reduceLT, Nat.reduceLeDiff, Nat.reduceAdd, Nat.reduceMul, Nat.reduceSub, Int.reduceToNat, Int.reduceLT, Int.reduceLE, Int.reduceAdd, Int.reduceSub, Int.reduceMul, Int.reduceNeg, Nat.reducePow, Int.reducePow, hP, h5_8, h5_29, h5_1, h5_27, h5_28, ltT, ltF, leT, leF, eqT, eqF] at hT6
        obtain ⟨h6_1, h6_8, h6_27, h6_28, h6_29⟩ := hT6
        clear h5_8 h5_29 h5_1 h5_27 h5_28 T5
        refine SX.region_d [some 45, some 29] rfl (fun ops hops => ?_)
        unfold Dsts at hops
        simp (maxSteps := 1000000) (dsimp := false) (disch := omega) only [go_sem, add_addS, ia_someH, wu8, wu16, w32, wu32, wu64, w64, Nat.reduceEqDiff, Nat.reduceBEq, ↓reduceIte, reduceCtorEq, Int.reduceEq, Nat.reduceLT, Nat.reduceLeDiff, Nat.reduceAdd, Nat.reduceMul, Nat.reduceSub, Int.reduceToNat, Int.reduceLT, Int.reduceLE, Int.reduceAdd, Int.reduceSub, Int.reduceMul, Int.reduceNeg, Nat.reducePow, Int.reducePow, hP, h6_1, h6_8, h6_27, h6_28, h6_29, ltT, ltF, leT, leF, eqT, eqF, hops]
        repeat' ((first | refine And.intro (by omega) ?_ | fail); try (with_reducible refine stI ?_); try simp (maxSteps := 1000000) (dsimp := false) (disch := omega) only [go_sem, add_addS, ia_someH, wu8, wu16, w32, wu32, wu64, w64, Nat.reduceEqDiff, Nat.reduceBEq, ↓reduceIte, reduceCtorEq, Int.reduceEq, Nat.reduceLT, Nat.reduceLeDiff, Nat.reduceAdd, Nat.reduceMul, Nat.reduceSub, Int.reduceToNat, Int.reduceLT, Int.reduceLE, Int.reduceAdd, Int.reduceSub, Int.reduceMul, Int.reduceNeg, Nat.reducePow, Int.reducePow, hP, h6_1, h6_8, h6_27, h6_28, h6_29, ltT, ltF, leT, leF, eqT, eqF, hops])
        refine hK14 (j + 1) _ (some (g4, .cells [.int .u8 (r.op : Int), .int .u16 (r.mask : Int), .int .u16 (r.word : Int), .string r.name, .slice (some fa) r.fs.length fc].toArray 58 (0, 0)) :: (H ++ some (g0, .cells o.cells.toArray 25 (0, 0)) :: L)) _ (by first | exact Less.refl _ | exact Less.drop _ _ | exact Less.drops (Less.drop _ _) | exact Less.drops (Less.drops (Less.drop _ _)) | exact Less.drops (Less.drops (Less.drops (Less.drop _ _))) | exact Less.drops (Less.drops (Less.drops (Less.drops (Less.drop _ _))))) ?_ ?_
        · try dsimp only
          refine ⟨?_, ?_, ?_, ?_, ?_, ?_, ?_⟩
          · simp (maxSteps := 1000000) (dsimp := false) (disch := omega) only [go_sem, add_addS, ia_someH, wu8, wu16, w32, wu32, wu64, w64, Nat.reduceEqDiff, Nat.reduceBEq, ↓reduceIte, reduceCtorEq, Int.reduceEq, Nat.reduceLT, Nat.reduceLeDiff, Nat.reduceAdd, Nat.reduceMul, Nat.reduceSub, Int.reduceToNat, Int.reduceLT, Int.reduceLE, Int.reduceAdd, Int.reduceSub, Int.reduceMul, Int.reduceNeg, Nat.reducePow, Int.reducePow, hP, h6_1, h6_8, h6_27, h6_28, h6_29, ltT, ltF, leT, leF, eqT, eqF]
            rw [lineT_succ hf0]; rfl
          · simp (maxSteps := 1000000) (dsimp := false) (disch := omega) only [go_sem, add_addS, ia_someH, wu8, wu16, w32, wu32, wu64, w64, Nat.reduceEqDiff, Nat.reduceBEq, ↓reduceIte, reduceCtorEq, Int.reduceEq, Nat.reduceLT, Nat.reduceLeDiff, Nat.reduceAdd, Nat.reduceMul, Nat.reduceSub, Int.reduceToNat, Int.reduceLT, Int.reduceLE, Int.reduceAdd, Int.reduceSub, Int.reduceMul, Int.reduceNeg, Nat.reducePow, Int.reducePow, hP, h6_1, h6_8, h6_27, h6_28, h6_29, ltT, ltF, leT, leF, eqT, eqF]
            rfl
          · simp (maxSteps := 1000000) (dsimp := false) (disch := omega) only [go_sem, add_addS, ia_someH, wu8, wu16, w32, wu32, wu64, w64, Nat.reduceEqDiff, Nat.reduceBEq, ↓reduceIte, reduceCtorEq, Int.reduceEq, Nat.reduceLT, Nat.reduceLeDiff, Nat.reduceAdd, Nat.reduceMul, Nat.reduceSub, Int.reduceToNat, Int.reduceLT, Int.reduceLE, Int.reduceAdd, Int.reduceSub, Int.reduceMul, Int.reduceNeg, Nat.reducePow, Int.reducePow, hP, h6_1, h6_8, h6_27, h6_28, h6_29, ltT, ltF, leT, leF, eqT, eqF]
          · simp (maxSteps := 1000000) (dsimp := false) (disch := omega) only [go_sem, add_addS, ia_someH, wu8, wu16, w32, wu32, wu64, w64, Nat.reduceEqDiff, Nat.reduceBEq, ↓reduceIte, reduceCtorEq, Int.reduceEq, Nat.reduceLT, Nat.reduceLeDiff, Nat.reduceAdd, Nat.reduceMul, Nat.reduceSub, Int.reduceToNat, Int.reduceLT, Int.reduceLE, Int.reduceAdd, Int.reduceSub, Int.reduceMul, Int.reduceNeg, Nat.reducePow, Int.reducePow, hP, h6_1, h6_8, h6_27, h6_28, h6_29, ltT, ltF, leT, leF, eqT, eqF]
          · simp (maxSteps := 1000000) (dsimp := false) (disch := omega) only [go_sem, add_addS, ia_someH, wu8, wu16, w32, wu32, wu64, w64, Nat.reduceEqDiff, Nat.reduceBEq, ↓reduceIte, reduceCtorEq, Int.reduceEq, Nat.reduceLT, Nat.reduceLeDiff, Nat.reduceAdd, Nat.reduceMul, Nat.reduceSub, Int.reduceToNat, Int.reduceLT, Int.reduceLE, Int.reduceAdd, Int.reduceSub, Int.reduceMul, Int.reduceNeg, Nat.reducePow, Int.reducePow, hP, h6_1, h6_8, h6_27, h6_28, h6_29, ltT, ltF, leT, leF, eqT, eqF]
          · rfl
          · omega
        · (try dsimp only); omega
      · clear hX17 hY17 X17 Y17
        refine SX.exit ?_
        try simp only [andThen_normal, andThen_ret, andThen_exit, inBlk_normal, inBlk_ret, inBlk_exit, Nat.reduceEqDiff, if_true, if_false, ↓reduceIte]
        refine hK12 _ _ ?_
        try clear hK12 K12
        refine SX.seq_k fun K20 hK20 => ?_
        refine SX.region_d [some 46, some 2, some 3] rfl (fun ops hops => ?_)
        unfold Dsts at hops
        simp (maxSteps := 1000000) (dsimp := false) (disch := omega) only [go_sem, add_addS, ia_someH, wu8, wu16, w32, wu32, wu64, w64, Nat.reduceEqDiff, Nat.reduceBEq, ↓reduceIte, reduceCtorEq, Int.reduceEq, Nat.reduceLT, Nat.reduceLeDiff, Nat.reduceAdd, Nat.reduceMul, Nat.reduceSub, Int.reduceToNat, Int.reduceLT, Int.reduceLE, Int.reduceAdd, Int.reduceSub, Int.reduceMul, Int.reduceNeg, Nat.reducePow, Int.reducePow, hP, h5_8, h5_29, h5_1, h5_27, h5_28, ltT, ltF, leT, leF, eqT, eqF, hops]
        refine hK20 _ _ ?_
        try clear hK20 K20
        refine SX.ret ?_
        simp only [andThen_normal, andThen_ret, andThen_exit, inBlk_normal, inBlk_ret, inBlk_exit, Nat.reduceEqDiff, if_true, if_false, ↓reduceIte, retQ_ret]
        try simp only [res0, res1, res2, res3, stK_e, go_sem, add_addS, ia_someH, wu8, wu16, w32, wu32, wu64, w64, Nat.reduceEqDiff, Nat.reduceBEq, ↓reduceIte, reduceCtorEq, Int.reduceEq, Nat.reduceLT, Nat.reduceLeDiff, Nat.reduceAdd, Nat.reduceMul, Nat.reduceSub, Int.reduceToNat, Int.reduceLT, Int.reduceLE, Int.reduceAdd, Int.reduceSub, Int.reduceMul, Int.reduceNeg, Nat.reducePow, Int.reducePow, hP, h5_8, h5_29, h5_1, h5_27, h5_28, ltT, ltF, leT, leF, eqT, eqF]
        obtain rfl : j = r.fs.length := by omega
        exact ⟨_, L, (Less.sublist (List.sublist_append_right (_ :: H) _)).trans (Less.drop _ _), rfl, ⟨by unfold printR print; rw [he]; simp only [hr]; rfl, rfl⟩⟩

end Go.Proofs.YthhogfnghaikaaaDoor
