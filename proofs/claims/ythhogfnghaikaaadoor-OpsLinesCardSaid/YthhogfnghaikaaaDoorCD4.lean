/- A part of the proof of OpsLinesCardSaid. -/
import Derived.Test.YthhogfnghaikaaaDoorCD3
set_option linter.unusedVariables false
set_option linter.unusedSimpArgs false
namespace Go.Proofs.YthhogfnghaikaaaDoor
open Go.RowKit Go.SX
theorem eqT_25 : EqT Tryd.prog 25 [.i .u8, .i .u8, .i .u8, .i .u8, .i .u8, .i .u16] := ⟨by kernel_rfl, by kernel_rfl, by kernel_rfl, by kernel_rfl, by kernel_rfl⟩

def fieldOut (o : Ord) (f : Fd) : Nat := f.of o % 2 ^ (4 * f.dig) * 2 ^ f.shift % 65536
def encT (o : Ord) (r : RowT) (j : Nat) : Nat := (r.fs.take j).foldl (fun w f => w ||| fieldOut o f) r.word
def encW (o : Ord) (r : RowT) : Nat := encT o r r.fs.length
def encode (o : Ord) : Option Nat := table.findSome? fun r => if r.op = o.op ∧ decode (encW o r) = some o then some (encW o r) else none
theorem encT_succ {o : Ord} {r : RowT} {j : Nat} {f : Fd} (h : r.fs[j]? = some f) : encT o r (j + 1) = encT o r j ||| fieldOut o f := by
  unfold encT
  rw [List.take_add_one, h, List.foldl_append]
  rfl
theorem fieldOut_lt (o : Ord) (f : Fd) : fieldOut o f < 65536 := Nat.mod_lt _ (by decide)
theorem foldl_lt {o : Ord} : ∀ (l : List Fd) (w : Nat), w < 65536 → l.foldl (fun w f => w ||| fieldOut o f) w < 65536
  | [], _, h => h
  | f :: l, w, h => foldl_lt l _ (Nat.or_lt_two_pow (n := 16) h (fieldOut_lt o f))
theorem encT_lt {o : Ord} {r : RowT} (h : r.word < 65536) (j : Nat) : encT o r j < 65536 := foldl_lt _ _ h
theorem Fd.of_lt {o : Ord} (h : OkO o) (f : Fd) : f.of o < 65536 := by
  cases f
  · have := h.x; show o.x < _; omega
  · have := h.y; show o.y < _; omega
  · have := h.n; show o.n < _; omega
  · have := h.b; show o.b < _; omega
  · exact h.a
theorem Fd.into_ok {o : Ord} (h : OkO o) (k : Nat) (f : Fd) : OkO (f.into o k) := by
  cases f
  · exact ⟨h.op, Nat.mod_lt _ (by decide), h.y, h.n, h.b, h.a⟩
  · exact ⟨h.op, h.x, Nat.mod_lt _ (by decide), h.n, h.b, h.a⟩
  · exact ⟨h.op, h.x, h.y, Nat.mod_lt _ (by decide), h.b, h.a⟩
  · exact ⟨h.op, h.x, h.y, h.n, Nat.mod_lt _ (by decide), h.a⟩
  · exact ⟨h.op, h.x, h.y, h.n, h.b, Nat.mod_lt _ (by decide)⟩
theorem foldl_ok {w : Nat} : ∀ (l : List Fd) (o : Ord), OkO o → OkO (l.foldl (fun o f => f.into o (fieldIn w f)) o)
  | [], _, h => h
  | f :: l, o, h => foldl_ok l _ (Fd.into_ok h _ f)
theorem decode_ok {w : Nat} {o : Ord} (h : decode w = some o) : OkO o := by
  unfold decode at h
  cases hr : rowOf w with
  | none => rw [hr] at h; cases h
  | some r =>
    rw [hr] at h
    cases h
    exact foldl_ok _ _ ⟨(row_fs hr).1, Nat.zero_lt_succ _, Nat.zero_lt_succ _, Nat.zero_lt_succ _, Nat.zero_lt_succ _, Nat.zero_lt_succ _⟩
theorem fieldOut_val (f : Fd) {o : Ord} (ho : OkO o) : IntKind.u16.wrap (IntKind.u16.wrap (bits .and .i64 ((f.of o : Nat) : Int) (IntKind.i64.wrap (IntKind.i64.wrap (1 * 2 ^ min (4 * f.dig) 64) - 1))) * 2 ^ min f.shift 16) = ((fieldOut o f : Nat) : Int) := by
  have key : ∀ (x : Int) (i : Nat), 0 ≤ x → x < 65536 → i ≤ 16 → bits .and .i64 x (2 ^ i - 1) = x % 2 ^ i := fun x i h0 h1 hi => bits_mask .i64 62 (by decide) (fun n hn1 hn2 => w64 (by omega)) i (by omega) x h0 (by omega)
  have hm : (IntKind.i64.wrap (IntKind.i64.wrap (1 * 2 ^ min (4 * f.dig) 64) - 1)) = 2 ^ (4 * f.dig) - 1 := by cases f <;> rfl
  have hs : min f.shift 16 = f.shift := by cases f <;> rfl
  have hl := Fd.of_lt ho f
  rw [hm, key _ _ (Int.natCast_nonneg _) (Int.ofNat_lt.2 hl) (by cases f <;> decide), hs]
  have e1 : ((f.of o : Nat) : Int) % 2 ^ (4 * f.dig) = ((f.of o % 2 ^ (4 * f.dig) : Nat) : Int) := by rw [show (2 : Int) ^ (4 * f.dig) = ((2 ^ (4 * f.dig) : Nat) : Int) by rw [Int.natCast_pow]; rfl]; rfl
  have hl2 : f.of o % 2 ^ (4 * f.dig) < 65536 := Nat.lt_of_le_of_lt (Nat.mod_le _ _) hl
  rw [e1, wu16 ⟨Int.natCast_nonneg _, by have := Int.ofNat_lt.2 hl2; omega⟩, show (2 : Int) ^ f.shift = ((2 ^ f.shift : Nat) : Int) by rw [Int.natCast_pow]; rfl, ← Int.natCast_mul, wn16]
  rfl
theorem find_some {o : Ord} {k : Nat} {r : RowT} (hk : table[k]? = some r) (hp : r.op = o.op ∧ decode (encW o r) = some o) (hl : ∀ j, j < k → ∀ r', table[j]? = some r' → ¬ (r'.op = o.op ∧ decode (encW o r') = some o)) : encode o = some (encW o r) := by
  unfold encode
  obtain ⟨h1, h2⟩ := List.getElem?_eq_some_iff.1 hk
  have e : table = table.take k ++ r :: table.drop (k + 1) := by rw [← h2, ← List.drop_eq_getElem_cons h1, List.take_append_drop]
  rw [e, List.findSome?_append, List.findSome?_eq_none_iff.2, Option.none_or, List.findSome?_cons, if_pos hp]
  intro r' hr'
  obtain ⟨j, hj⟩ := List.mem_iff_getElem?.1 hr'
  rw [List.getElem?_take] at hj
  split at hj
  · rename_i hjk
    exact if_neg (hl j hjk r' hj)
  · cases hj
theorem find_none {o : Ord} (hl : ∀ j, j < 31 → ∀ r', table[j]? = some r' → ¬ (r'.op = o.op ∧ decode (encW o r') = some o)) : encode o = none := by
  unfold encode
  rw [List.findSome?_eq_none_iff]
  intro r hr
  obtain ⟨j, hj⟩ := List.mem_iff_getElem?.1 hr
  exact if_neg (hl j (by have := (List.getElem?_eq_some_iff.1 hj).1; exact this) r hj)
set_option maxHeartbeats 1000000 in
set_option maxRecDepth 100000 in
theorem Encode_spec {Γ : Ctx} (hP : Γ.P = Tryd.prog) {L : Hp} {o : Ord} (ho : OkO o) :
    SCall Γ 8 #[(.agg o.cells.toArray)] L (fun v L' => v = .tuple #[.int .u16 (((encode o).getD 0 : Nat) : Int), .int .i64 (if (encode o).isSome then 0 else 160)] ∧ L' = L) := by
  refine SCall.enter (n := 60) (res2 2 3) (hP ▸ Tryd.func8) rfl rfl (by simp) (res2_ok rfl) ?_
  refine SX.seq_k fun K1 hK1 => ?_
  refine SX.region ?_
  simp (maxSteps := 1000000) only [go_sem, add_addS, ia_someH, stK_e, Nat.reduceEqDiff, Nat.reduceBEq, ↓reduceIte, reduceCtorEq, Int.reduceEq, Nat.reduceLT, Nat.reduceLeDiff, Nat.reduceAdd, Nat.reduceMul, Nat.reduceSub, Int.reduceToNat, Int.reduceLT, Int.reduceLE, Int.reduceAdd, Int.reduceSub, Int.reduceMul, Int.reduceNeg, Nat.reducePow, Int.reducePow, hP]
  intro g1
  refine hK1 _ _ ?_
  try clear hK1 K1
  refine SX.seq_k fun K2 hK2 => ?_
  refine SX.seq_k fun K3 hK3 => ?_
  refine SX.region ?_
  simp (maxSteps := 1000000) only [go_sem, add_addS, ia_someH, stK_e, Nat.reduceEqDiff, Nat.reduceBEq, ↓reduceIte, reduceCtorEq, Int.reduceEq, Nat.reduceLT, Nat.reduceLeDiff, Nat.reduceAdd, Nat.reduceMul, Nat.reduceSub, Int.reduceToNat, Int.reduceLT, Int.reduceLE, Int.reduceAdd, Int.reduceSub, Int.reduceMul, Int.reduceNeg, Nat.reducePow, Int.reducePow, hP]
  refine SCall.mono (rows_spec hP) ?_
  rintro v_ L_ ⟨H, a, rfl, rfl, hrow⟩
  try simp (maxSteps := 1000000) only [go_sem, add_addS, ia_someH, stK_e, Nat.reduceEqDiff, Nat.reduceBEq, ↓reduceIte, reduceCtorEq, Int.reduceEq, Nat.reduceLT, Nat.reduceLeDiff, Nat.reduceAdd, Nat.reduceMul, Nat.reduceSub, Int.reduceToNat, Int.reduceLT, Int.reduceLE, Int.reduceAdd, Int.reduceSub, Int.reduceMul, Int.reduceNeg, Nat.reducePow, Int.reducePow, hP]
  refine hK3 _ _ ?_
  try clear hK3 K3
  refine SX.block ?_
  refine SX.live [1, 11, 12, 13] (fun T1 hT1 => ?_)
  simp only [go_sem, add_addS, ia_someH, stK_e, Nat.reduceEqDiff, Nat.reduceBEq, ↓reduceIte, reduceCtorEq, Int.reduceEq, Nat.reduceLT, Nat.reduceLeDiff, Nat.reduceAdd, Nat.reduceMul, Nat.reduceSub, Int.reduceToNat, Int.reduceLT, Int.reduceLE, Int.reduceAdd, Int.reduceSub, Int.reduceMul, Int.reduceNeg, Nat.reducePow, Int.reducePow, forall_mem_cons', forall_mem_nil', hP] at hT1
  obtain ⟨h1_1, h1_11, h1_12, h1_13⟩ := hT1
  refine SX.loop_k (fun (ss : (Nat)) T L' => (fun (k : Nat) => T 13 = .int .i64 (k : Int) ∧ T 1 = T1 1 ∧ T 11 = T1 11 ∧ T 12 = T1 12 ∧ L' = H ++ some (g1, .cells o.cells.toArray 25 (0, 0)) :: L ∧ (k ≤ 31 ∧ ∀ j, j < k → ∀ r', table[j]? = some r' → ¬ (r'.op = o.op ∧ decode (encW o r') = some o))) (ss)) (fun (ss : (Nat)) => (fun (k : Nat) => 31 - k) (ss)) 0 ?_ ?_
  · try dsimp only
    refine ⟨?_, ?_, ?_, ?_, ?_, ?_⟩
    · first | exact h1_13 | (rw [h1_13]; rfl) | (rw [h1_13]; simp; done)
    · rfl
    · rfl
    · rfl
    · rfl
    · exact ⟨Nat.zero_le _, fun j hj => absurd hj (Nat.not_lt_zero _)⟩
  · intro k T2 L2 hI K4 hK4
    try dsimp only at hI hK4
    simp only [h1_1, h1_11, h1_12] at hI hK4
    obtain ⟨h2_13, h2_1, h2_11, h2_12, hL2, ⟨hk, hno⟩⟩ := hI
    replace hL2 := hL2.symm
    subst hL2
    clear h1_1 h1_11 h1_12 h1_13 T1
    refine SX.seq_k fun K5 hK5 => ?_
    refine SX.region ?_
    simp (maxSteps := 1000000) only [go_sem, add_addS, ia_someH, stK_e, Nat.reduceEqDiff, Nat.reduceBEq, ↓reduceIte, reduceCtorEq, Int.reduceEq, Nat.reduceLT, Nat.reduceLeDiff, Nat.reduceAdd, Nat.reduceMul, Nat.reduceSub, Int.reduceToNat, Int.reduceLT, Int.reduceLE, Int.reduceAdd, Int.reduceSub, Int.reduceMul, Int.reduceNeg, Nat.reducePow, Int.reducePow, hP, h2_13, h2_1, h2_11, h2_12]
    refine hK5 _ _ ?_
    try clear hK5 K5
    refine SX.seq_k fun K6 hK6 => ?_
    refine SX.cond_k fun X7 Y7 hX7 hY7 => ?_
    simp (maxSteps := 1000000) only [go_sem, add_addS, ia_someH, stK_e, Nat.reduceEqDiff, Nat.reduceBEq, ↓reduceIte, reduceCtorEq, Int.reduceEq, Nat.reduceLT, Nat.reduceLeDiff, Nat.reduceAdd, Nat.reduceMul, Nat.reduceSub, Int.reduceToNat, Int.reduceLT, Int.reduceLE, Int.reduceAdd, Int.reduceSub, Int.reduceMul, Int.reduceNeg, Nat.reducePow, Int.reducePow, hP, h2_13, h2_1, h2_11, h2_12, condVC]
    refine ⟨fun hc14 => hX7 ?_, fun hc14 => hY7 ?_⟩
    · clear hX7 hY7 X7 Y7
      refine SX.skip ?_
      try simp only [andThen_normal, andThen_ret, andThen_exit, inBlk_normal, inBlk_ret, inBlk_exit, Nat.reduceEqDiff, if_true, if_false, reduceIte]
      refine hK6 _ _ ?_
      try clear hK6 K6
      refine SX.seq_k fun K8 hK8 => ?_
      refine SX.block ?_
      refine SX.seq_k fun K9 hK9 => ?_
      have hkl : k < 31 := by omega
      have hk0 : table[k]? = some table[k] := List.getElem?_eq_getElem hkl
      obtain ⟨fv, hfv⟩ := hrow k _ hk0
      have hti := table_in hk0
      generalize table[k] = r at hk0 hfv hti
      obtain ⟨c0, c1, c2, c3, c4, hfs⟩ := hfv (some (g1, .cells o.cells.toArray 25 (0, 0)) :: L)
      simp only [add_addS] at c1 c2 c3 c4
      obtain ⟨FA, fc, hfe, hfc, hfA⟩ := id hfs
      subst hfe
      refine SX.region ?_
      simp (maxSteps := 1000000) only [go_sem, add_addS, ia_someH, stK_e, Nat.reduceEqDiff, Nat.reduceBEq, ↓reduceIte, reduceCtorEq, Int.reduceEq, Nat.reduceLT, Nat.reduceLeDiff, Nat.reduceAdd, Nat.reduceMul, Nat.reduceSub, Int.reduceToNat, Int.reduceLT, Int.reduceLE, Int.reduceAdd, Int.reduceSub, Int.reduceMul, Int.reduceNeg, Nat.reducePow, Int.reducePow, hP, h2_13, h2_1, h2_11, h2_12]
      refine ⟨⟨by omega, by omega⟩, _, c0, _, c1, _, c2, _, c3, _, c4, ?_⟩
      try simp (maxSteps := 1000000) only [go_sem, add_addS, ia_someH, stK_e, Nat.reduceEqDiff, Nat.reduceBEq, ↓reduceIte, reduceCtorEq, Int.reduceEq, Nat.reduceLT, Nat.reduceLeDiff, Nat.reduceAdd, Nat.reduceMul, Nat.reduceSub, Int.reduceToNat, Int.reduceLT, Int.reduceLE, Int.reduceAdd, Int.reduceSub, Int.reduceMul, Int.reduceNeg, Nat.reducePow, Int.reducePow, hP, h2_13, h2_1, h2_11, h2_12]
      intro g5
      refine ⟨0, _, _, _, rfl, by decide, .inr (by decide), ?_⟩
      try simp (maxSteps := 1000000) only [go_sem, add_addS, ia_someH, stK_e, Nat.reduceEqDiff, Nat.reduceBEq, ↓reduceIte, reduceCtorEq, Int.reduceEq, Nat.reduceLT, Nat.reduceLeDiff, Nat.reduceAdd, Nat.reduceMul, Nat.reduceSub, Int.reduceToNat, Int.reduceLT, Int.reduceLE, Int.reduceAdd, Int.reduceSub, Int.reduceMul, Int.reduceNeg, Nat.reducePow, Int.reducePow, hP, h2_13, h2_1, h2_11, h2_12]
      refine hK9 _ _ ?_
      try clear hK9 K9
      refine SX.seq_k fun K10 hK10 => ?_
      refine SX.seq_k fun K11 hK11 => ?_
      refine SX.region ?_
      simp (maxSteps := 1000000) only [go_sem, add_addS, ia_someH, stK_e, Nat.reduceEqDiff, Nat.reduceBEq, ↓reduceIte, reduceCtorEq, Int.reduceEq, Nat.reduceLT, Nat.reduceLeDiff, Nat.reduceAdd, Nat.reduceMul, Nat.reduceSub, Int.reduceToNat, Int.reduceLT, Int.reduceLE, Int.reduceAdd, Int.reduceSub, Int.reduceMul, Int.reduceNeg, Nat.reducePow, Int.reducePow, bin_neqa, hP, h2_13, h2_1, h2_11, h2_12]
      refine ⟨_, Cell.at 0 rfl rfl, ?_⟩
      try simp (maxSteps := 1000000) only [go_sem, add_addS, ia_someH, stK_e, Nat.reduceEqDiff, Nat.reduceBEq, ↓reduceIte, reduceCtorEq, Int.reduceEq, Nat.reduceLT, Nat.reduceLeDiff, Nat.reduceAdd, Nat.reduceMul, Nat.reduceSub, Int.reduceToNat, Int.reduceLT, Int.reduceLE, Int.reduceAdd, Int.reduceSub, Int.reduceMul, Int.reduceNeg, Nat.reducePow, Int.reducePow, bin_neqa, hP, h2_13, h2_1, h2_11, h2_12]
      refine ⟨_, Cell.at (H.length + 1) (by rw [List.getElem?_cons_succ]; exact get_mid _ _ _) (show o.cells[0]? = _ from rfl), ?_⟩
      try simp (maxSteps := 1000000) only [go_sem, add_addS, ia_someH, stK_e, Nat.reduceEqDiff, Nat.reduceBEq, ↓reduceIte, reduceCtorEq, Int.reduceEq, Nat.reduceLT, Nat.reduceLeDiff, Nat.reduceAdd, Nat.reduceMul, Nat.reduceSub, Int.reduceToNat, Int.reduceLT, Int.reduceLE, Int.reduceAdd, Int.reduceSub, Int.reduceMul, Int.reduceNeg, Nat.reducePow, Int.reducePow, bin_neqa, hP, h2_13, h2_1, h2_11, h2_12]
      refine hK11 _ _ ?_
      try clear hK11 K11
      refine SX.live [1, 5, 11, 12, 13, 21] (fun T3 hT3 => ?_)
      simp only [go_sem, add_addS, ia_someH, stK_e, Nat.reduceEqDiff, Nat.reduceBEq, ↓reduceIte, reduceCtorEq, Int.reduceEq, Nat.reduceLT, Nat.reduceLeDiff, Nat.reduceAdd, Nat.reduceMul, Nat.reduceSub, Int.reduceToNat, Int.reduceLT, Int.reduceLE, Int.reduceAdd, Int.reduceSub, Int.reduceMul, Int.reduceNeg, Nat.reducePow, Int.reducePow, forall_mem_cons', forall_mem_nil', hP, h2_13, h2_1, h2_11, h2_12] at hT3
      obtain ⟨h3_1, h3_5, h3_11, h3_12, h3_13, h3_21⟩ := hT3
      clear h2_13 h2_1 h2_11 h2_12 T2
      refine SX.cond_k fun X12 Y12 hX12 hY12 => ?_
      simp (maxSteps := 1000000) only [go_sem, add_addS, ia_someH, stK_e, Nat.reduceEqDiff, Nat.reduceBEq, ↓reduceIte, reduceCtorEq, Int.reduceEq, Nat.reduceLT, Nat.reduceLeDiff, Nat.reduceAdd, Nat.reduceMul, Nat.reduceSub, Int.reduceToNat, Int.reduceLT, Int.reduceLE, Int.reduceAdd, Int.reduceSub, Int.reduceMul, Int.reduceNeg, Nat.reducePow, Int.reducePow, hP, h3_1, h3_5, h3_11, h3_12, h3_13, h3_21, condVC]
      refine ⟨fun hc21 => hX12 ?_, fun hc21 => hY12 ?_⟩
      · clear hX12 hY12 X12 Y12
        refine SX.exit ?_
        try simp only [andThen_normal, andThen_ret, andThen_exit, inBlk_normal, inBlk_ret, inBlk_exit, Nat.reduceEqDiff, if_true, if_false, reduceIte]
        refine hK8 _ _ ?_
        try clear hK8 K8
        refine SX.region ?_
        simp (maxSteps := 1000000) only [go_sem, add_addS, ia_someH, stK_e, Nat.reduceEqDiff, Nat.reduceBEq, ↓reduceIte, reduceCtorEq, Int.reduceEq, Nat.reduceLT, Nat.reduceLeDiff, Nat.reduceAdd, Nat.reduceMul, Nat.reduceSub, Int.reduceToNat, Int.reduceLT, Int.reduceLE, Int.reduceAdd, Int.reduceSub, Int.reduceMul, Int.reduceNeg, Nat.reducePow, Int.reducePow, hP, h3_1, h3_5, h3_11, h3_12, h3_13, h3_21]
        refine hK4 (k + 1) _ (H ++ some (g1, .cells o.cells.toArray 25 (0, 0)) :: L) _ (by first | exact Less.refl _ | exact Less.drop _ _ | exact Less.drops (Less.drop _ _) | exact Less.drops (Less.drops (Less.drop _ _)) | exact Less.drops (Less.drops (Less.drops (Less.drop _ _))) | exact Less.drops (Less.drops (Less.drops (Less.drops (Less.drop _ _))))) ?_ ?_
        · try dsimp only
          refine ⟨?_, ?_, ?_, ?_, ?_, ?_⟩
          · simp (maxSteps := 1000000) only [go_sem, add_addS, ia_someH, stK_e, Nat.reduceEqDiff, Nat.reduceBEq, ↓reduceIte, reduceCtorEq, Int.reduceEq, Nat.reduceLT, Nat.reduceLeDiff, Nat.reduceAdd, Nat.reduceMul, Nat.reduceSub, Int.reduceToNat, Int.reduceLT, Int.reduceLE, Int.reduceAdd, Int.reduceSub, Int.reduceMul, Int.reduceNeg, Nat.reducePow, Int.reducePow, hP, h3_1, h3_5, h3_11, h3_12, h3_13, h3_21]
            rw [inc64 (by omega)]
          · simp (maxSteps := 1000000) only [go_sem, add_addS, ia_someH, stK_e, Nat.reduceEqDiff, Nat.reduceBEq, ↓reduceIte, reduceCtorEq, Int.reduceEq, Nat.reduceLT, Nat.reduceLeDiff, Nat.reduceAdd, Nat.reduceMul, Nat.reduceSub, Int.reduceToNat, Int.reduceLT, Int.reduceLE, Int.reduceAdd, Int.reduceSub, Int.reduceMul, Int.reduceNeg, Nat.reducePow, Int.reducePow, hP, h3_1, h3_5, h3_11, h3_12, h3_13, h3_21]
          · simp (maxSteps := 1000000) only [go_sem, add_addS, ia_someH, stK_e, Nat.reduceEqDiff, Nat.reduceBEq, ↓reduceIte, reduceCtorEq, Int.reduceEq, Nat.reduceLT, Nat.reduceLeDiff, Nat.reduceAdd, Nat.reduceMul, Nat.reduceSub, Int.reduceToNat, Int.reduceLT, Int.reduceLE, Int.reduceAdd, Int.reduceSub, Int.reduceMul, Int.reduceNeg, Nat.reducePow, Int.reducePow, hP, h3_1, h3_5, h3_11, h3_12, h3_13, h3_21]
          · simp (maxSteps := 1000000) only [go_sem, add_addS, ia_someH, stK_e, Nat.reduceEqDiff, Nat.reduceBEq, ↓reduceIte, reduceCtorEq, Int.reduceEq, Nat.reduceLT, Nat.reduceLeDiff, Nat.reduceAdd, Nat.reduceMul, Nat.reduceSub, Int.reduceToNat, Int.reduceLT, Int.reduceLE, Int.reduceAdd, Int.reduceSub, Int.reduceMul, Int.reduceNeg, Nat.reducePow, Int.reducePow, hP, h3_1, h3_5, h3_11, h3_12, h3_13, h3_21]
          · rfl
          · refine ⟨by omega, fun j hj r' hr' => ?_⟩
            rcases Nat.lt_succ_iff_lt_or_eq.1 hj with h | rfl
            · exact hno j h r' hr'
            · rw [hk0] at hr'; cases hr'; exact fun h => by have := h.1; omega
        · (try dsimp only); omega
      · clear hX12 hY12 X12 Y12
        refine SX.skip ?_
        try simp only [andThen_normal, andThen_ret, andThen_exit, inBlk_normal, inBlk_ret, inBlk_exit, Nat.reduceEqDiff, if_true, if_false, reduceIte]
        refine hK10 _ _ ?_
        try clear hK10 K10
        refine SX.seq_k fun K13 hK13 => ?_
        refine SX.region ?_
        simp (maxSteps := 1000000) only [go_sem, add_addS, ia_someH, stK_e, Nat.reduceEqDiff, Nat.reduceBEq, ↓reduceIte, reduceCtorEq, Int.reduceEq, Nat.reduceLT, Nat.reduceLeDiff, Nat.reduceAdd, Nat.reduceMul, Nat.reduceSub, Int.reduceToNat, Int.reduceLT, Int.reduceLE, Int.reduceAdd, Int.reduceSub, Int.reduceMul, Int.reduceNeg, Nat.reducePow, Int.reducePow, hP, h3_1, h3_5, h3_11, h3_12, h3_13, h3_21]
        refine ⟨_, Cell.at 0 rfl rfl, ?_⟩
        try simp (maxSteps := 1000000) only [go_sem, add_addS, ia_someH, stK_e, Nat.reduceEqDiff, Nat.reduceBEq, ↓reduceIte, reduceCtorEq, Int.reduceEq, Nat.reduceLT, Nat.reduceLeDiff, Nat.reduceAdd, Nat.reduceMul, Nat.reduceSub, Int.reduceToNat, Int.reduceLT, Int.reduceLE, Int.reduceAdd, Int.reduceSub, Int.reduceMul, Int.reduceNeg, Nat.reducePow, Int.reducePow, hP, h3_1, h3_5, h3_11, h3_12, h3_13, h3_21]
        refine hK13 _ _ ?_
        try clear hK13 K13
        refine SX.seq_k fun K14 hK14 => ?_
        refine SX.seq_k fun K15 hK15 => ?_
        refine SX.region ?_
        simp (maxSteps := 1000000) only [go_sem, add_addS, ia_someH, stK_e, Nat.reduceEqDiff, Nat.reduceBEq, ↓reduceIte, reduceCtorEq, Int.reduceEq, Nat.reduceLT, Nat.reduceLeDiff, Nat.reduceAdd, Nat.reduceMul, Nat.reduceSub, Int.reduceToNat, Int.reduceLT, Int.reduceLE, Int.reduceAdd, Int.reduceSub, Int.reduceMul, Int.reduceNeg, Nat.reducePow, Int.reducePow, hP, h3_1, h3_5, h3_11, h3_12, h3_13, h3_21]
        refine ⟨_, Cell.at 0 rfl rfl, ?_⟩
        try simp (maxSteps := 1000000) only [go_sem, add_addS, ia_someH, stK_e, Nat.reduceEqDiff, Nat.reduceBEq, ↓reduceIte, reduceCtorEq, Int.reduceEq, Nat.reduceLT, Nat.reduceLeDiff, Nat.reduceAdd, Nat.reduceMul, Nat.reduceSub, Int.reduceToNat, Int.reduceLT, Int.reduceLE, Int.reduceAdd, Int.reduceSub, Int.reduceMul, Int.reduceNeg, Nat.reducePow, Int.reducePow, hP, h3_1, h3_5, h3_11, h3_12, h3_13, h3_21]
        refine hK15 _ _ ?_
        try clear hK15 K15
        refine SX.block ?_
        refine SX.live [1, 6, 11, 12, 13, 25, 26, 27] (fun T4 hT4 => ?_)
        simp only [go_sem, add_addS, ia_someH, stK_e, Nat.reduceEqDiff, Nat.reduceBEq, ↓reduceIte, reduceCtorEq, Int.reduceEq, Nat.reduceLT, Nat.reduceLeDiff, Nat.reduceAdd, Nat.reduceMul, Nat.reduceSub, Int.reduceToNat, Int.reduceLT, Int.reduceLE, Int.reduceAdd, Int.reduceSub, Int.reduceMul, Int.reduceNeg, Nat.reducePow, Int.reducePow, forall_mem_cons', forall_mem_nil', hP, h3_1, h3_5, h3_11, h3_12, h3_13, h3_21] at hT4
        obtain ⟨h4_1, h4_6, h4_11, h4_12, h4_13, h4_25, h4_26, h4_27⟩ := hT4
        clear h3_1 h3_5 h3_11 h3_12 h3_13 h3_21 T3
        refine SX.loop_k (fun (ss : (Nat)) T L' => (fun (j : Nat) => T 6 = .int .u16 ((encT o r j : Nat) : Int) ∧ T 27 = .int .i64 (j : Int) ∧ T 1 = T4 1 ∧ T 11 = T4 11 ∧ T 12 = T4 12 ∧ T 13 = T4 13 ∧ T 25 = T4 25 ∧ T 26 = T4 26 ∧ L' = some (g5, .cells [.int .u8 (r.op : Int), .int .u16 (r.mask : Int), .int .u16 (r.word : Int), .string r.name, .slice FA r.fs.length fc].toArray 58 (0, 0)) :: (H ++ some (g1, .cells o.cells.toArray 25 (0, 0)) :: L) ∧ (j ≤ r.fs.length)) (ss)) (fun (ss : (Nat)) => (fun (j : Nat) => r.fs.length - j) (ss)) 0 ?_ ?_
        · try dsimp only
          refine ⟨?_, ?_, ?_, ?_, ?_, ?_, ?_, ?_, ?_, ?_⟩
          · first | exact h4_6 | (rw [h4_6]; rfl) | (rw [h4_6]; simp; done)
          · first | exact h4_27 | (rw [h4_27]; rfl) | (rw [h4_27]; simp; done)
          · rfl
          · rfl
          · rfl
          · rfl
          · rfl
          · rfl
          · rfl
          · exact Nat.zero_le _
        · intro j T5 L5 hI K16 hK16
          try dsimp only at hI hK16
          simp only [h4_1, h4_11, h4_12, h4_13, h4_25, h4_26] at hI hK16
          obtain ⟨h5_6, h5_27, h5_1, h5_11, h5_12, h5_13, h5_25, h5_26, hL5, hj⟩ := hI
          replace hL5 := hL5.symm
          subst hL5
          clear h4_1 h4_6 h4_11 h4_12 h4_13 h4_25 h4_26 h4_27 T4
          refine SX.seq_k fun K17 hK17 => ?_
          refine SX.region ?_
          simp (maxSteps := 1000000) only [go_sem, add_addS, ia_someH, stK_e, Nat.reduceEqDiff, Nat.reduceBEq, ↓reduceIte, reduceCtorEq, Int.reduceEq, Nat.reduceLT, Nat.reduceLeDiff, Nat.reduceAdd, Nat.reduceMul, Nat.reduceSub, Int.reduceToNat, Int.reduceLT, Int.reduceLE, Int.reduceAdd, Int.reduceSub, Int.reduceMul, Int.reduceNeg, Nat.reducePow, Int.reducePow, hP, h5_6, h5_27, h5_1, h5_11, h5_12, h5_13, h5_25, h5_26]
          refine hK17 _ _ ?_
          try clear hK17 K17
          refine SX.seq_k fun K18 hK18 => ?_
          refine SX.cond_k fun X19 Y19 hX19 hY19 => ?_
          simp (maxSteps := 1000000) only [go_sem, add_addS, ia_someH, stK_e, Nat.reduceEqDiff, Nat.reduceBEq, ↓reduceIte, reduceCtorEq, Int.reduceEq, Nat.reduceLT, Nat.reduceLeDiff, Nat.reduceAdd, Nat.reduceMul, Nat.reduceSub, Int.reduceToNat, Int.reduceLT, Int.reduceLE, Int.reduceAdd, Int.reduceSub, Int.reduceMul, Int.reduceNeg, Nat.reducePow, Int.reducePow, hP, h5_6, h5_27, h5_1, h5_11, h5_12, h5_13, h5_25, h5_26, condVC]
          refine ⟨fun hc28 => hX19 ?_, fun hc28 => hY19 ?_⟩
          · clear hX19 hY19 X19 Y19
            refine SX.skip ?_
            try simp only [andThen_normal, andThen_ret, andThen_exit, inBlk_normal, inBlk_ret, inBlk_exit, Nat.reduceEqDiff, if_true, if_false, reduceIte]
            refine hK18 _ _ ?_
            try clear hK18 K18
            refine SX.seq_k fun K20 hK20 => ?_
            refine SX.block ?_
            refine SX.seq_k fun K21 hK21 => ?_
            have hjl : j < r.fs.length := by omega
            have hf0 : r.fs[j]? = some r.fs[j] := List.getElem?_eq_getElem hjl
            obtain ⟨fa, hfa, hcl0⟩ := hfA j _ hf0
            generalize r.fs[j] = f at hf0 hcl0
            have hcl : ∀ i u, f.cells[i]? = some u → Cell Γ (some (g5, .cells [.int .u8 (r.op : Int), .int .u16 (r.mask : Int), .int .u16 (r.word : Int), .string r.name, .slice FA r.fs.length fc].toArray 58 (0, 0)) :: (H ++ some (g1, .cells o.cells.toArray 25 (0, 0)) :: L)) (fa.add (j * 5 + i)) u := fun i u h => by rw [← add_addS]; exact Cell.cons _ (hcl0 i u h)
            refine SX.region ?_
            simp (maxSteps := 1000000) only [go_sem, add_addS, ia_someH, stK_e, Nat.reduceEqDiff, Nat.reduceBEq, ↓reduceIte, reduceCtorEq, Int.reduceEq, Nat.reduceLT, Nat.reduceLeDiff, Nat.reduceAdd, Nat.reduceMul, Nat.reduceSub, Int.reduceToNat, Int.reduceLT, Int.reduceLE, Int.reduceAdd, Int.reduceSub, Int.reduceMul, Int.reduceNeg, Nat.reducePow, Int.reducePow, hP, h5_6, h5_27, h5_1, h5_11, h5_12, h5_13, h5_25, h5_26]
            refine ⟨⟨by omega, by omega⟩, fa, hfa, _, hcl 0 _ rfl, _, hcl 1 _ rfl, _, hcl 2 _ rfl, _, hcl 3 _ rfl, _, hcl 4 _ rfl, ?_⟩
            try simp (maxSteps := 1000000) only [go_sem, add_addS, ia_someH, stK_e, Nat.reduceEqDiff, Nat.reduceBEq, ↓reduceIte, reduceCtorEq, Int.reduceEq, Nat.reduceLT, Nat.reduceLeDiff, Nat.reduceAdd, Nat.reduceMul, Nat.reduceSub, Int.reduceToNat, Int.reduceLT, Int.reduceLE, Int.reduceAdd, Int.reduceSub, Int.reduceMul, Int.reduceNeg, Nat.reducePow, Int.reducePow, hP, h5_6, h5_27, h5_1, h5_11, h5_12, h5_13, h5_25, h5_26]
            intro g8
            refine ⟨0, _, _, _, rfl, by simp, .inr (by decide), ?_⟩
            try simp (maxSteps := 1000000) only [go_sem, add_addS, ia_someH, stK_e, Nat.reduceEqDiff, Nat.reduceBEq, ↓reduceIte, reduceCtorEq, Int.reduceEq, Nat.reduceLT, Nat.reduceLeDiff, Nat.reduceAdd, Nat.reduceMul, Nat.reduceSub, Int.reduceToNat, Int.reduceLT, Int.reduceLE, Int.reduceAdd, Int.reduceSub, Int.reduceMul, Int.reduceNeg, Nat.reducePow, Int.reducePow, hP, h5_6, h5_27, h5_1, h5_11, h5_12, h5_13, h5_25, h5_26]
            refine hK21 _ _ ?_
            try clear hK21 K21
            have q2 : IntKind.i64.wrap (4 * (f.dig : Int)) = ((4 * f.dig : Nat) : Int) := by cases f <;> rfl
            have hel := encT_lt (o := o) hti.2.2.1 j
            refine SX.quiet (hP ▸ T.mixed) (by kernel_rfl) ?_
            simp (maxSteps := 1000000) only [go_sem, add_addS, ia_someH, stK_e, Nat.reduceEqDiff, Nat.reduceBEq, ↓reduceIte, reduceCtorEq, Int.reduceEq, Nat.reduceLT, Nat.reduceLeDiff, Nat.reduceAdd, Nat.reduceMul, Nat.reduceSub, Int.reduceToNat, Int.reduceLT, Int.reduceLE, Int.reduceAdd, Int.reduceSub, Int.reduceMul, Int.reduceNeg, Nat.reducePow, Int.reducePow, hP, h5_6, h5_27, h5_1, h5_11, h5_12, h5_13, h5_25, h5_26, q2]
            refine ⟨_, Cell.at 0 rfl rfl, ?_⟩
            try simp (maxSteps := 1000000) only [go_sem, add_addS, ia_someH, stK_e, Nat.reduceEqDiff, Nat.reduceBEq, ↓reduceIte, reduceCtorEq, Int.reduceEq, Nat.reduceLT, Nat.reduceLeDiff, Nat.reduceAdd, Nat.reduceMul, Nat.reduceSub, Int.reduceToNat, Int.reduceLT, Int.reduceLE, Int.reduceAdd, Int.reduceSub, Int.reduceMul, Int.reduceNeg, Nat.reducePow, Int.reducePow, hP, h5_6, h5_27, h5_1, h5_11, h5_12, h5_13, h5_25, h5_26, q2]
            refine ⟨callable_get f, _, get_spec hP f ho (fun k u hu => Cell.at (H.length + 2) (by rw [List.getElem?_cons_succ, List.getElem?_cons_succ]; exact get_mid _ _ _) hu), ?_⟩
            try simp (maxSteps := 1000000) only [go_sem, add_addS, ia_someH, stK_e, Nat.reduceEqDiff, Nat.reduceBEq, ↓reduceIte, reduceCtorEq, Int.reduceEq, Nat.reduceLT, Nat.reduceLeDiff, Nat.reduceAdd, Nat.reduceMul, Nat.reduceSub, Int.reduceToNat, Int.reduceLT, Int.reduceLE, Int.reduceAdd, Int.reduceSub, Int.reduceMul, Int.reduceNeg, Nat.reducePow, Int.reducePow, hP, h5_6, h5_27, h5_1, h5_11, h5_12, h5_13, h5_25, h5_26, q2]
            refine ⟨_, Cell.at 0 rfl rfl, ?_⟩
            try simp (maxSteps := 1000000) only [go_sem, add_addS, ia_someH, stK_e, Nat.reduceEqDiff, Nat.reduceBEq, ↓reduceIte, reduceCtorEq, Int.reduceEq, Nat.reduceLT, Nat.reduceLeDiff, Nat.reduceAdd, Nat.reduceMul, Nat.reduceSub, Int.reduceToNat, Int.reduceLT, Int.reduceLE, Int.reduceAdd, Int.reduceSub, Int.reduceMul, Int.reduceNeg, Nat.reducePow, Int.reducePow, hP, h5_6, h5_27, h5_1, h5_11, h5_12, h5_13, h5_25, h5_26, q2]
            refine ⟨by omega, _, Cell.at 0 rfl rfl, ?_⟩
            try simp (maxSteps := 1000000) only [go_sem, add_addS, ia_someH, stK_e, Nat.reduceEqDiff, Nat.reduceBEq, ↓reduceIte, reduceCtorEq, Int.reduceEq, Nat.reduceLT, Nat.reduceLeDiff, Nat.reduceAdd, Nat.reduceMul, Nat.reduceSub, Int.reduceToNat, Int.reduceLT, Int.reduceLE, Int.reduceAdd, Int.reduceSub, Int.reduceMul, Int.reduceNeg, Nat.reducePow, Int.reducePow, hP, h5_6, h5_27, h5_1, h5_11, h5_12, h5_13, h5_25, h5_26, q2]
            refine ⟨by omega, ?_⟩
            try simp (maxSteps := 1000000) only [go_sem, add_addS, ia_someH, stK_e, Nat.reduceEqDiff, Nat.reduceBEq, ↓reduceIte, reduceCtorEq, Int.reduceEq, Nat.reduceLT, Nat.reduceLeDiff, Nat.reduceAdd, Nat.reduceMul, Nat.reduceSub, Int.reduceToNat, Int.reduceLT, Int.reduceLE, Int.reduceAdd, Int.reduceSub, Int.reduceMul, Int.reduceNeg, Nat.reducePow, Int.reducePow, hP, h5_6, h5_27, h5_1, h5_11, h5_12, h5_13, h5_25, h5_26, q2]
            rw [fieldOut_val f ho, u16_or_nat _ _ hel (fieldOut_lt o f)]
            refine hK20 _ _ ?_
            try clear hK20 K20
            refine SX.live [1, 6, 11, 12, 13, 25, 26, 27] (fun T6 hT6 => ?_)
            simp only [go_sem, add_addS, ia_someH, stK_e, Nat.reduceEqDiff, Nat.reduceBEq, ↓reduceIte, reduceCtorEq, Int.reduceEq, Nat.reduceLT, Nat.reduceLeDiff, Nat.reduceAdd, Nat.reduceMul, Nat.reduceSub, Int.reduceToNat, Int.reduceLT, Int.reduceLE, Int.reduceAdd, Int.reduceSub, Int.reduceMul, Int.reduceNeg, Nat.reducePow, Int.reducePow, forall_mem_cons', forall_mem_nil', hP, h5_6, h5_27, h5_1, h5_11, h5_12, h5_13, h5_25, h5_26] at hT6
            obtain ⟨h6_1, h6_6, h6_11, h6_12, h6_13, h6_25, h6_26, h6_27⟩ := hT6
            clear h5_6 h5_27 h5_1 h5_11 h5_12 h5_13 h5_25 h5_26 T5
            refine SX.region ?_
            simp (maxSteps := 1000000) only [go_sem, add_addS, ia_someH, stK_e, Nat.reduceEqDiff, Nat.reduceBEq, ↓reduceIte, reduceCtorEq, Int.reduceEq, Nat.reduceLT, Nat.reduceLeDiff, Nat.reduceAdd, Nat.reduceMul, Nat.reduceSub, Int.reduceToNat, Int.reduceLT, Int.reduceLE, Int.reduceAdd, Int.reduceSub, Int.reduceMul, Int.reduceNeg, Nat.reducePow, Int.reducePow, hP, h6_1, h6_6, h6_11, h6_12, h6_13, h6_25, h6_26, h6_27]
            refine hK16 (j + 1) _ (some (g5, .cells [.int .u8 (r.op : Int), .int .u16 (r.mask : Int), .int .u16 (r.word : Int), .string r.name, .slice FA r.fs.length fc].toArray 58 (0, 0)) :: (H ++ some (g1, .cells o.cells.toArray 25 (0, 0)) :: L)) _ (by first | exact Less.refl _ | exact Less.drop _ _ | exact Less.drops (Less.drop _ _) | exact Less.drops (Less.drops (Less.drop _ _)) | exact Less.drops (Less.drops (Less.drops (Less.drop _ _))) | exact Less.drops (Less.drops (Less.drops (Less.drops (Less.drop _ _))))) ?_ ?_
            · try dsimp only
              refine ⟨?_, ?_, ?_, ?_, ?_, ?_, ?_, ?_, ?_, ?_⟩
              · simp (maxSteps := 1000000) only [go_sem, add_addS, ia_someH, stK_e, Nat.reduceEqDiff, Nat.reduceBEq, ↓reduceIte, reduceCtorEq, Int.reduceEq, Nat.reduceLT, Nat.reduceLeDiff, Nat.reduceAdd, Nat.reduceMul, Nat.reduceSub, Int.reduceToNat, Int.reduceLT, Int.reduceLE, Int.reduceAdd, Int.reduceSub, Int.reduceMul, Int.reduceNeg, Nat.reducePow, Int.reducePow, hP, h6_1, h6_6, h6_11, h6_12, h6_13, h6_25, h6_26, h6_27]
                rw [encT_succ hf0]
              · simp (maxSteps := 1000000) only [go_sem, add_addS, ia_someH, stK_e, Nat.reduceEqDiff, Nat.reduceBEq, ↓reduceIte, reduceCtorEq, Int.reduceEq, Nat.reduceLT, Nat.reduceLeDiff, Nat.reduceAdd, Nat.reduceMul, Nat.reduceSub, Int.reduceToNat, Int.reduceLT, Int.reduceLE, Int.reduceAdd, Int.reduceSub, Int.reduceMul, Int.reduceNeg, Nat.reducePow, Int.reducePow, hP, h6_1, h6_6, h6_11, h6_12, h6_13, h6_25, h6_26, h6_27]
                rw [inc64 (by omega)]
              · simp (maxSteps := 1000000) only [go_sem, add_addS, ia_someH, stK_e, Nat.reduceEqDiff, Nat.reduceBEq, ↓reduceIte, reduceCtorEq, Int.reduceEq, Nat.reduceLT, Nat.reduceLeDiff, Nat.reduceAdd, Nat.reduceMul, Nat.reduceSub, Int.reduceToNat, Int.reduceLT, Int.reduceLE, Int.reduceAdd, Int.reduceSub, Int.reduceMul, Int.reduceNeg, Nat.reducePow, Int.reducePow, hP, h6_1, h6_6, h6_11, h6_12, h6_13, h6_25, h6_26, h6_27]
              · simp (maxSteps := 1000000) only [go_sem, add_addS, ia_someH, stK_e, Nat.reduceEqDiff, Nat.reduceBEq, ↓reduceIte, reduceCtorEq, Int.reduceEq, Nat.reduceLT, Nat.reduceLeDiff, Nat.reduceAdd, Nat.reduceMul, Nat.reduceSub, Int.reduceToNat, Int.reduceLT, Int.reduceLE, Int.reduceAdd, Int.reduceSub, Int.reduceMul, Int.reduceNeg, Nat.reducePow, Int.reducePow, hP, h6_1, h6_6, h6_11, h6_12, h6_13, h6_25, h6_26, h6_27]
              · simp (maxSteps := 1000000) only [go_sem, add_addS, ia_someH, stK_e, Nat.reduceEqDiff, Nat.reduceBEq, ↓reduceIte, reduceCtorEq, Int.reduceEq, Nat.reduceLT, Nat.reduceLeDiff, Nat.reduceAdd, Nat.reduceMul, Nat.reduceSub, Int.reduceToNat, Int.reduceLT, Int.reduceLE, Int.reduceAdd, Int.reduceSub, Int.reduceMul, Int.reduceNeg, Nat.reducePow, Int.reducePow, hP, h6_1, h6_6, h6_11, h6_12, h6_13, h6_25, h6_26, h6_27]
              · simp (maxSteps := 1000000) only [go_sem, add_addS, ia_someH, stK_e, Nat.reduceEqDiff, Nat.reduceBEq, ↓reduceIte, reduceCtorEq, Int.reduceEq, Nat.reduceLT, Nat.reduceLeDiff, Nat.reduceAdd, Nat.reduceMul, Nat.reduceSub, Int.reduceToNat, Int.reduceLT, Int.reduceLE, Int.reduceAdd, Int.reduceSub, Int.reduceMul, Int.reduceNeg, Nat.reducePow, Int.reducePow, hP, h6_1, h6_6, h6_11, h6_12, h6_13, h6_25, h6_26, h6_27]
              · simp (maxSteps := 1000000) only [go_sem, add_addS, ia_someH, stK_e, Nat.reduceEqDiff, Nat.reduceBEq, ↓reduceIte, reduceCtorEq, Int.reduceEq, Nat.reduceLT, Nat.reduceLeDiff, Nat.reduceAdd, Nat.reduceMul, Nat.reduceSub, Int.reduceToNat, Int.reduceLT, Int.reduceLE, Int.reduceAdd, Int.reduceSub, Int.reduceMul, Int.reduceNeg, Nat.reducePow, Int.reducePow, hP, h6_1, h6_6, h6_11, h6_12, h6_13, h6_25, h6_26, h6_27]
              · simp (maxSteps := 1000000) only [go_sem, add_addS, ia_someH, stK_e, Nat.reduceEqDiff, Nat.reduceBEq, ↓reduceIte, reduceCtorEq, Int.reduceEq, Nat.reduceLT, Nat.reduceLeDiff, Nat.reduceAdd, Nat.reduceMul, Nat.reduceSub, Int.reduceToNat, Int.reduceLT, Int.reduceLE, Int.reduceAdd, Int.reduceSub, Int.reduceMul, Int.reduceNeg, Nat.reducePow, Int.reducePow, hP, h6_1, h6_6, h6_11, h6_12, h6_13, h6_25, h6_26, h6_27]
              · rfl
              · omega
            · (try dsimp only); omega
          · clear hX19 hY19 X19 Y19
            refine SX.exit ?_
            try simp only [andThen_normal, andThen_ret, andThen_exit, inBlk_normal, inBlk_ret, inBlk_exit, Nat.reduceEqDiff, if_true, if_false, reduceIte]
            refine hK14 _ _ ?_
            try clear hK14 K14
            refine SX.seq_k fun K22 hK22 => ?_
            obtain rfl : j = r.fs.length := by omega
            have hel := encT_lt (o := o) hti.2.2.1 r.fs.length
            refine SX.region ?_
            simp (maxSteps := 1000000) only [go_sem, add_addS, ia_someH, stK_e, Nat.reduceEqDiff, Nat.reduceBEq, ↓reduceIte, reduceCtorEq, Int.reduceEq, Nat.reduceLT, Nat.reduceLeDiff, Nat.reduceAdd, Nat.reduceMul, Nat.reduceSub, Int.reduceToNat, Int.reduceLT, Int.reduceLE, Int.reduceAdd, Int.reduceSub, Int.reduceMul, Int.reduceNeg, Nat.reducePow, Int.reducePow, hP, h5_6, h5_27, h5_1, h5_11, h5_12, h5_13, h5_25, h5_26, zeroO, Ord.cells]
            rcases hd : decode (encW o r) with _ | p
            · refine SCall.mono (Decode_spec hP hel) ?_
              rintro v_ L_ h_
              rw [decodeR, show decode (encT o r r.fs.length) = none from hd] at h_
              obtain ⟨rfl, rfl⟩ := h_
              try simp (maxSteps := 1000000) only [go_sem, add_addS, ia_someH, stK_e, Nat.reduceEqDiff, Nat.reduceBEq, ↓reduceIte, reduceCtorEq, Int.reduceEq, Nat.reduceLT, Nat.reduceLeDiff, Nat.reduceAdd, Nat.reduceMul, Nat.reduceSub, Int.reduceToNat, Int.reduceLT, Int.reduceLE, Int.reduceAdd, Int.reduceSub, Int.reduceMul, Int.reduceNeg, Nat.reducePow, Int.reducePow, hP, h5_6, h5_27, h5_1, h5_11, h5_12, h5_13, h5_25, h5_26, zeroO, Ord.cells]
              intro g9
              refine ⟨0, _, _, _, rfl, by simp [Ord.cells], .inr (by decide), ?_⟩
              try simp (maxSteps := 1000000) only [go_sem, add_addS, ia_someH, stK_e, Nat.reduceEqDiff, Nat.reduceBEq, ↓reduceIte, reduceCtorEq, Int.reduceEq, Nat.reduceLT, Nat.reduceLeDiff, Nat.reduceAdd, Nat.reduceMul, Nat.reduceSub, Int.reduceToNat, Int.reduceLT, Int.reduceLE, Int.reduceAdd, Int.reduceSub, Int.reduceMul, Int.reduceNeg, Nat.reducePow, Int.reducePow, hP, h5_6, h5_27, h5_1, h5_11, h5_12, h5_13, h5_25, h5_26, zeroO, Ord.cells]
              refine hK22 _ _ ?_
              try clear hK22 K22
              refine SX.seq_k fun K23 hK23 => ?_
              refine SX.region ?_
              simp (maxSteps := 1000000) only [go_sem, add_addS, ia_someH, stK_e, Nat.reduceEqDiff, Nat.reduceBEq, ↓reduceIte, reduceCtorEq, Int.reduceEq, Nat.reduceLT, Nat.reduceLeDiff, Nat.reduceAdd, Nat.reduceMul, Nat.reduceSub, Int.reduceToNat, Int.reduceLT, Int.reduceLE, Int.reduceAdd, Int.reduceSub, Int.reduceMul, Int.reduceNeg, Nat.reducePow, Int.reducePow, bin_eqla, hP, h5_6, h5_27, h5_1, h5_11, h5_12, h5_13, h5_25, h5_26]
              refine hK23 _ _ ?_
              try clear hK23 K23
              refine SX.live [1, 6, 11, 12, 13, 57] (fun T7 hT7 => ?_)
              simp only [go_sem, add_addS, ia_someH, stK_e, Nat.reduceEqDiff, Nat.reduceBEq, ↓reduceIte, reduceCtorEq, Int.reduceEq, Nat.reduceLT, Nat.reduceLeDiff, Nat.reduceAdd, Nat.reduceMul, Nat.reduceSub, Int.reduceToNat, Int.reduceLT, Int.reduceLE, Int.reduceAdd, Int.reduceSub, Int.reduceMul, Int.reduceNeg, Nat.reducePow, Int.reducePow, forall_mem_cons', forall_mem_nil', hP, h5_6, h5_27, h5_1, h5_11, h5_12, h5_13, h5_25, h5_26] at hT7
              obtain ⟨h7_1, h7_6, h7_11, h7_12, h7_13, h7_57⟩ := hT7
              clear h5_6 h5_27 h5_1 h5_11 h5_12 h5_13 h5_25 h5_26 T5
              refine SX.cond_k fun X24 Y24 hX24 hY24 => ?_
              simp (maxSteps := 1000000) only [go_sem, add_addS, ia_someH, stK_e, Nat.reduceEqDiff, Nat.reduceBEq, ↓reduceIte, reduceCtorEq, Int.reduceEq, Nat.reduceLT, Nat.reduceLeDiff, Nat.reduceAdd, Nat.reduceMul, Nat.reduceSub, Int.reduceToNat, Int.reduceLT, Int.reduceLE, Int.reduceAdd, Int.reduceSub, Int.reduceMul, Int.reduceNeg, Nat.reducePow, Int.reducePow, hP, h7_1, h7_6, h7_11, h7_12, h7_13, h7_57, condVC]
              refine hY24 ?_
              clear hX24 hY24 X24 Y24
              refine SX.skip ?_
              try simp only [andThen_normal, andThen_ret, andThen_exit, inBlk_normal, inBlk_ret, inBlk_exit, Nat.reduceEqDiff, if_true, if_false, reduceIte]
              refine hK8 _ _ ?_
              try clear hK8 K8
              refine SX.region ?_
              simp (maxSteps := 1000000) only [go_sem, add_addS, ia_someH, stK_e, Nat.reduceEqDiff, Nat.reduceBEq, ↓reduceIte, reduceCtorEq, Int.reduceEq, Nat.reduceLT, Nat.reduceLeDiff, Nat.reduceAdd, Nat.reduceMul, Nat.reduceSub, Int.reduceToNat, Int.reduceLT, Int.reduceLE, Int.reduceAdd, Int.reduceSub, Int.reduceMul, Int.reduceNeg, Nat.reducePow, Int.reducePow, hP, h7_1, h7_6, h7_11, h7_12, h7_13, h7_57]
              refine hK4 (k + 1) _ (H ++ some (g1, .cells o.cells.toArray 25 (0, 0)) :: L) _ (by first | exact Less.refl _ | exact Less.drop _ _ | exact Less.drops (Less.drop _ _) | exact Less.drops (Less.drops (Less.drop _ _)) | exact Less.drops (Less.drops (Less.drops (Less.drop _ _))) | exact Less.drops (Less.drops (Less.drops (Less.drops (Less.drop _ _))))) ?_ ?_
              · try dsimp only
                refine ⟨?_, ?_, ?_, ?_, ?_, ?_⟩
                · simp (maxSteps := 1000000) only [go_sem, add_addS, ia_someH, stK_e, Nat.reduceEqDiff, Nat.reduceBEq, ↓reduceIte, reduceCtorEq, Int.reduceEq, Nat.reduceLT, Nat.reduceLeDiff, Nat.reduceAdd, Nat.reduceMul, Nat.reduceSub, Int.reduceToNat, Int.reduceLT, Int.reduceLE, Int.reduceAdd, Int.reduceSub, Int.reduceMul, Int.reduceNeg, Nat.reducePow, Int.reducePow, hP, h7_1, h7_6, h7_11, h7_12, h7_13, h7_57]
                  rw [inc64 (by omega)]
                · simp (maxSteps := 1000000) only [go_sem, add_addS, ia_someH, stK_e, Nat.reduceEqDiff, Nat.reduceBEq, ↓reduceIte, reduceCtorEq, Int.reduceEq, Nat.reduceLT, Nat.reduceLeDiff, Nat.reduceAdd, Nat.reduceMul, Nat.reduceSub, Int.reduceToNat, Int.reduceLT, Int.reduceLE, Int.reduceAdd, Int.reduceSub, Int.reduceMul, Int.reduceNeg, Nat.reducePow, Int.reducePow, hP, h7_1, h7_6, h7_11, h7_12, h7_13, h7_57]
                · simp (maxSteps := 1000000) only [go_sem, add_addS, ia_someH, stK_e, Nat.reduceEqDiff, Nat.reduceBEq, ↓reduceIte, reduceCtorEq, Int.reduceEq, Nat.reduceLT, Nat.reduceLeDiff, Nat.reduceAdd, Nat.reduceMul, Nat.reduceSub, Int.reduceToNat, Int.reduceLT, Int.reduceLE, Int.reduceAdd, Int.reduceSub, Int.reduceMul, Int.reduceNeg, Nat.reducePow, Int.reducePow, hP, h7_1, h7_6, h7_11, h7_12, h7_13, h7_57]
                · simp (maxSteps := 1000000) only [go_sem, add_addS, ia_someH, stK_e, Nat.reduceEqDiff, Nat.reduceBEq, ↓reduceIte, reduceCtorEq, Int.reduceEq, Nat.reduceLT, Nat.reduceLeDiff, Nat.reduceAdd, Nat.reduceMul, Nat.reduceSub, Int.reduceToNat, Int.reduceLT, Int.reduceLE, Int.reduceAdd, Int.reduceSub, Int.reduceMul, Int.reduceNeg, Nat.reducePow, Int.reducePow, hP, h7_1, h7_6, h7_11, h7_12, h7_13, h7_57]
                · rfl
                · refine ⟨by omega, fun j hj r' hr' => ?_⟩
                  rcases Nat.lt_succ_iff_lt_or_eq.1 hj with h | rfl
                  · exact hno j h r' hr'
                  · rw [hk0] at hr'; cases hr'; exact fun h => by rw [hd] at h; cases h.2
              · (try dsimp only); omega
            · refine SCall.mono (Decode_spec hP hel) ?_
              rintro v_ L_ h_
              rw [decodeR, show decode (encT o r r.fs.length) = some p from hd] at h_
              obtain ⟨rfl, rfl⟩ := h_
              have hpo := decode_ok hd
              try simp (maxSteps := 1000000) only [go_sem, add_addS, ia_someH, stK_e, Nat.reduceEqDiff, Nat.reduceBEq, ↓reduceIte, reduceCtorEq, Int.reduceEq, Nat.reduceLT, Nat.reduceLeDiff, Nat.reduceAdd, Nat.reduceMul, Nat.reduceSub, Int.reduceToNat, Int.reduceLT, Int.reduceLE, Int.reduceAdd, Int.reduceSub, Int.reduceMul, Int.reduceNeg, Nat.reducePow, Int.reducePow, hP, h5_6, h5_27, h5_1, h5_11, h5_12, h5_13, h5_25, h5_26, zeroO, Ord.cells]
              intro g9
              refine ⟨0, _, _, _, rfl, by simp [Ord.cells], .inr (by decide), ?_⟩
              try simp (maxSteps := 1000000) only [go_sem, add_addS, ia_someH, stK_e, Nat.reduceEqDiff, Nat.reduceBEq, ↓reduceIte, reduceCtorEq, Int.reduceEq, Nat.reduceLT, Nat.reduceLeDiff, Nat.reduceAdd, Nat.reduceMul, Nat.reduceSub, Int.reduceToNat, Int.reduceLT, Int.reduceLE, Int.reduceAdd, Int.reduceSub, Int.reduceMul, Int.reduceNeg, Nat.reducePow, Int.reducePow, hP, h5_6, h5_27, h5_1, h5_11, h5_12, h5_13, h5_25, h5_26, zeroO, Ord.cells]
              refine hK22 _ _ ?_
              try clear hK22 K22
              refine SX.seq_k fun K25 hK25 => ?_
              refine SX.region ?_
              simp (maxSteps := 1000000) only [go_sem, add_addS, ia_someH, stK_e, Nat.reduceEqDiff, Nat.reduceBEq, ↓reduceIte, reduceCtorEq, Int.reduceEq, Nat.reduceLT, Nat.reduceLeDiff, Nat.reduceAdd, Nat.reduceMul, Nat.reduceSub, Int.reduceToNat, Int.reduceLT, Int.reduceLE, Int.reduceAdd, Int.reduceSub, Int.reduceMul, Int.reduceNeg, Nat.reducePow, Int.reducePow, bin_eqla, hP, h5_6, h5_27, h5_1, h5_11, h5_12, h5_13, h5_25, h5_26]
              refine ⟨_, Cell.at 0 rfl rfl, _, Cell.at 0 rfl rfl, _, Cell.at 0 rfl rfl, _, Cell.at 0 rfl rfl, _, Cell.at 0 rfl rfl, _, Cell.at 0 rfl rfl, _, Cell.at (H.length + 2) (by rw [List.getElem?_cons_succ, List.getElem?_cons_succ]; exact get_mid _ _ _) (show o.cells[0]? = _ from rfl), _, Cell.at (H.length + 2) (by rw [List.getElem?_cons_succ, List.getElem?_cons_succ]; exact get_mid _ _ _) (show o.cells[1]? = _ from rfl), _, Cell.at (H.length + 2) (by rw [List.getElem?_cons_succ, List.getElem?_cons_succ]; exact get_mid _ _ _) (show o.cells[2]? = _ from rfl), _, Cell.at (H.length + 2) (by rw [List.getElem?_cons_succ, List.getElem?_cons_succ]; exact get_mid _ _ _) (show o.cells[3]? = _ from rfl), _, Cell.at (H.length + 2) (by rw [List.getElem?_cons_succ, List.getElem?_cons_succ]; exact get_mid _ _ _) (show o.cells[4]? = _ from rfl), _, Cell.at (H.length + 2) (by rw [List.getElem?_cons_succ, List.getElem?_cons_succ]; exact get_mid _ _ _) (show o.cells[5]? = _ from rfl), ?_⟩
              try simp (maxSteps := 1000000) only [go_sem, add_addS, ia_someH, stK_e, Nat.reduceEqDiff, Nat.reduceBEq, ↓reduceIte, reduceCtorEq, Int.reduceEq, Nat.reduceLT, Nat.reduceLeDiff, Nat.reduceAdd, Nat.reduceMul, Nat.reduceSub, Int.reduceToNat, Int.reduceLT, Int.reduceLE, Int.reduceAdd, Int.reduceSub, Int.reduceMul, Int.reduceNeg, Nat.reducePow, Int.reducePow, bin_eqla, hP, h5_6, h5_27, h5_1, h5_11, h5_12, h5_13, h5_25, h5_26]
              have k1 := hpo.op; have k2 := hpo.x; have k3 := hpo.y; have k4 := hpo.n; have k5 := hpo.b; have k6 := hpo.a
              have m1 := ho.op; have m2 := ho.x; have m3 := ho.y; have m4 := ho.n; have m5 := ho.b; have m6 := ho.a
              refine aggEq_of eqT_25 (by simp only [okVs, okV, wf_i64, wf_u8, wf_u16, Bool.and_eq_true, decide_eq_true_eq, decide_true, true_and, and_true, Bool.and_true, Bool.true_and, and_self]; try omega) (by simp only [okVs, okV, wf_i64, wf_u8, wf_u16, Bool.and_eq_true, decide_eq_true_eq, decide_true, true_and, and_true, Bool.and_true, Bool.true_and, and_self]; try omega) (fun r0 hr => ?_)
              simp only [litV, List.map_cons, List.map_nil, List.cons.injEq, Lit.int.injEq, Lit.bool.injEq, Lit.string.injEq, true_and, and_true, and_self, iff_true, eq_self] at hr
              have hre : r0 = decide (p = o) := by
                rw [Bool.eq_iff_iff, hr, decide_eq_true_eq]
                cases p; cases o; simp only [Ord.mk.injEq]; omega
              rw [hre]
              try simp (maxSteps := 1000000) only [go_sem, add_addS, ia_someH, stK_e, Nat.reduceEqDiff, Nat.reduceBEq, ↓reduceIte, reduceCtorEq, Int.reduceEq, Nat.reduceLT, Nat.reduceLeDiff, Nat.reduceAdd, Nat.reduceMul, Nat.reduceSub, Int.reduceToNat, Int.reduceLT, Int.reduceLE, Int.reduceAdd, Int.reduceSub, Int.reduceMul, Int.reduceNeg, Nat.reducePow, Int.reducePow, bin_eqla, hP, h5_6, h5_27, h5_1, h5_11, h5_12, h5_13, h5_25, h5_26]
              refine hK25 _ _ ?_
              try clear hK25 K25
              refine SX.live [1, 6, 11, 12, 13, 57] (fun T8 hT8 => ?_)
              simp only [go_sem, add_addS, ia_someH, stK_e, Nat.reduceEqDiff, Nat.reduceBEq, ↓reduceIte, reduceCtorEq, Int.reduceEq, Nat.reduceLT, Nat.reduceLeDiff, Nat.reduceAdd, Nat.reduceMul, Nat.reduceSub, Int.reduceToNat, Int.reduceLT, Int.reduceLE, Int.reduceAdd, Int.reduceSub, Int.reduceMul, Int.reduceNeg, Nat.reducePow, Int.reducePow, forall_mem_cons', forall_mem_nil', hP, h5_6, h5_27, h5_1, h5_11, h5_12, h5_13, h5_25, h5_26] at hT8
              obtain ⟨h8_1, h8_6, h8_11, h8_12, h8_13, h8_57⟩ := hT8
              clear h5_6 h5_27 h5_1 h5_11 h5_12 h5_13 h5_25 h5_26 T5
              refine SX.cond_k fun X26 Y26 hX26 hY26 => ?_
              simp (maxSteps := 1000000) only [go_sem, add_addS, ia_someH, stK_e, Nat.reduceEqDiff, Nat.reduceBEq, ↓reduceIte, reduceCtorEq, Int.reduceEq, Nat.reduceLT, Nat.reduceLeDiff, Nat.reduceAdd, Nat.reduceMul, Nat.reduceSub, Int.reduceToNat, Int.reduceLT, Int.reduceLE, Int.reduceAdd, Int.reduceSub, Int.reduceMul, Int.reduceNeg, Nat.reducePow, Int.reducePow, hP, h8_1, h8_6, h8_11, h8_12, h8_13, h8_57, condVC]
              refine ⟨fun hc57 => hX26 ?_, fun hc57 => hY26 ?_⟩
              · clear hX26 hY26 X26 Y26
                refine SX.seq_k fun K27 hK27 => ?_
                refine SX.region ?_
                simp (maxSteps := 1000000) only [go_sem, add_addS, ia_someH, stK_e, Nat.reduceEqDiff, Nat.reduceBEq, ↓reduceIte, reduceCtorEq, Int.reduceEq, Nat.reduceLT, Nat.reduceLeDiff, Nat.reduceAdd, Nat.reduceMul, Nat.reduceSub, Int.reduceToNat, Int.reduceLT, Int.reduceLE, Int.reduceAdd, Int.reduceSub, Int.reduceMul, Int.reduceNeg, Nat.reducePow, Int.reducePow, hP, h8_1, h8_6, h8_11, h8_12, h8_13, h8_57]
                refine hK27 _ _ ?_
                try clear hK27 K27
                refine SX.ret ?_
                simp only [andThen_normal, andThen_ret, andThen_exit, inBlk_normal, inBlk_ret, inBlk_exit, Nat.reduceEqDiff, if_true, if_false, ↓reduceIte, retQ_ret]
                try simp only [go_sem, add_addS, ia_someH, stK_e, Nat.reduceEqDiff, Nat.reduceBEq, ↓reduceIte, reduceCtorEq, Int.reduceEq, Nat.reduceLT, Nat.reduceLeDiff, Nat.reduceAdd, Nat.reduceMul, Nat.reduceSub, Int.reduceToNat, Int.reduceLT, Int.reduceLE, Int.reduceAdd, Int.reduceSub, Int.reduceMul, Int.reduceNeg, Nat.reducePow, Int.reducePow, res0, res1, res2, res3, hP, h8_1, h8_6, h8_11, h8_12, h8_13, h8_57]
                refine ⟨_, L, (Less.sublist (List.sublist_append_right (_ :: _ :: H) _)).trans (Less.drop _ _), rfl, ?_⟩
                have he : encode o = some (encW o r) := find_some hk0 ⟨by omega, by rw [hd, hc57]⟩ hno
                rw [he]
                exact ⟨rfl, rfl⟩
              · clear hX26 hY26 X26 Y26
                refine SX.skip ?_
                try simp only [andThen_normal, andThen_ret, andThen_exit, inBlk_normal, inBlk_ret, inBlk_exit, Nat.reduceEqDiff, if_true, if_false, reduceIte]
                refine hK8 _ _ ?_
                try clear hK8 K8
                refine SX.region ?_
                simp (maxSteps := 1000000) only [go_sem, add_addS, ia_someH, stK_e, Nat.reduceEqDiff, Nat.reduceBEq, ↓reduceIte, reduceCtorEq, Int.reduceEq, Nat.reduceLT, Nat.reduceLeDiff, Nat.reduceAdd, Nat.reduceMul, Nat.reduceSub, Int.reduceToNat, Int.reduceLT, Int.reduceLE, Int.reduceAdd, Int.reduceSub, Int.reduceMul, Int.reduceNeg, Nat.reducePow, Int.reducePow, hP, h8_1, h8_6, h8_11, h8_12, h8_13, h8_57]
                refine hK4 (k + 1) _ (H ++ some (g1, .cells o.cells.toArray 25 (0, 0)) :: L) _ (by first | exact Less.refl _ | exact Less.drop _ _ | exact Less.drops (Less.drop _ _) | exact Less.drops (Less.drops (Less.drop _ _)) | exact Less.drops (Less.drops (Less.drops (Less.drop _ _))) | exact Less.drops (Less.drops (Less.drops (Less.drops (Less.drop _ _))))) ?_ ?_
                · try dsimp only
                  refine ⟨?_, ?_, ?_, ?_, ?_, ?_⟩
                  · simp (maxSteps := 1000000) only [go_sem, add_addS, ia_someH, stK_e, Nat.reduceEqDiff, Nat.reduceBEq, ↓reduceIte, reduceCtorEq, Int.reduceEq, Nat.reduceLT, Nat.reduceLeDiff, Nat.reduceAdd, Nat.reduceMul, Nat.reduceSub, Int.reduceToNat, Int.reduceLT, Int.reduceLE, Int.reduceAdd, Int.reduceSub, Int.reduceMul, Int.reduceNeg, Nat.reducePow, Int.reducePow, hP, h8_1, h8_6, h8_11, h8_12, h8_13, h8_57]
                    rw [inc64 (by omega)]
                  · simp (maxSteps := 1000000) only [go_sem, add_addS, ia_someH, stK_e, Nat.reduceEqDiff, Nat.reduceBEq, ↓reduceIte, reduceCtorEq, Int.reduceEq, Nat.reduceLT, Nat.reduceLeDiff, Nat.reduceAdd, Nat.reduceMul, Nat.reduceSub, Int.reduceToNat, Int.reduceLT, Int.reduceLE, Int.reduceAdd, Int.reduceSub, Int.reduceMul, Int.reduceNeg, Nat.reducePow, Int.reducePow, hP, h8_1, h8_6, h8_11, h8_12, h8_13, h8_57]
                  · simp (maxSteps := 1000000) only [go_sem, add_addS, ia_someH, stK_e, Nat.reduceEqDiff, Nat.reduceBEq, ↓reduceIte, reduceCtorEq, Int.reduceEq, Nat.reduceLT, Nat.reduceLeDiff, Nat.reduceAdd, Nat.reduceMul, Nat.reduceSub, Int.reduceToNat, Int.reduceLT, Int.reduceLE, Int.reduceAdd, Int.reduceSub, Int.reduceMul, Int.reduceNeg, Nat.reducePow, Int.reducePow, hP, h8_1, h8_6, h8_11, h8_12, h8_13, h8_57]
                  · simp (maxSteps := 1000000) only [go_sem, add_addS, ia_someH, stK_e, Nat.reduceEqDiff, Nat.reduceBEq, ↓reduceIte, reduceCtorEq, Int.reduceEq, Nat.reduceLT, Nat.reduceLeDiff, Nat.reduceAdd, Nat.reduceMul, Nat.reduceSub, Int.reduceToNat, Int.reduceLT, Int.reduceLE, Int.reduceAdd, Int.reduceSub, Int.reduceMul, Int.reduceNeg, Nat.reducePow, Int.reducePow, hP, h8_1, h8_6, h8_11, h8_12, h8_13, h8_57]
                  · rfl
                  · refine ⟨by omega, fun j hj r' hr' => ?_⟩
                    rcases Nat.lt_succ_iff_lt_or_eq.1 hj with h | rfl
                    · exact hno j h r' hr'
                    · rw [hk0] at hr'; cases hr'; exact fun h => by rw [hd] at h; exact hc57 (Option.some.inj h.2)
                · (try dsimp only); omega
    · clear hX7 hY7 X7 Y7
      refine SX.exit ?_
      try simp only [andThen_normal, andThen_ret, andThen_exit, inBlk_normal, inBlk_ret, inBlk_exit, Nat.reduceEqDiff, if_true, if_false, reduceIte]
      refine hK2 _ _ ?_
      try clear hK2 K2
      refine SX.seq_k fun K28 hK28 => ?_
      obtain rfl : k = 31 := by omega
      refine SX.region ?_
      simp (maxSteps := 1000000) only [go_sem, add_addS, ia_someH, stK_e, Nat.reduceEqDiff, Nat.reduceBEq, ↓reduceIte, reduceCtorEq, Int.reduceEq, Nat.reduceLT, Nat.reduceLeDiff, Nat.reduceAdd, Nat.reduceMul, Nat.reduceSub, Int.reduceToNat, Int.reduceLT, Int.reduceLE, Int.reduceAdd, Int.reduceSub, Int.reduceMul, Int.reduceNeg, Nat.reducePow, Int.reducePow, hP, h2_13, h2_1, h2_11, h2_12]
      refine hK28 _ _ ?_
      try clear hK28 K28
      refine SX.ret ?_
      simp only [andThen_normal, andThen_ret, andThen_exit, inBlk_normal, inBlk_ret, inBlk_exit, Nat.reduceEqDiff, if_true, if_false, ↓reduceIte, retQ_ret]
      try simp only [go_sem, add_addS, ia_someH, stK_e, Nat.reduceEqDiff, Nat.reduceBEq, ↓reduceIte, reduceCtorEq, Int.reduceEq, Nat.reduceLT, Nat.reduceLeDiff, Nat.reduceAdd, Nat.reduceMul, Nat.reduceSub, Int.reduceToNat, Int.reduceLT, Int.reduceLE, Int.reduceAdd, Int.reduceSub, Int.reduceMul, Int.reduceNeg, Nat.reducePow, Int.reducePow, res0, res1, res2, res3, hP, h2_13, h2_1, h2_11, h2_12]
      refine ⟨_, L, (Less.sublist (List.sublist_append_right H _)).trans (Less.drop _ _), rfl, ?_⟩
      rw [find_none hno]
      exact ⟨rfl, rfl⟩

end Go.Proofs.YthhogfnghaikaaaDoor
