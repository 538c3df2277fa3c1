/- A part of the proof of OpsLinesCardSaid. -/
import Derived.Test.YthhogfnghaikaaaDoorCD2
set_option linter.unusedVariables false
set_option linter.unusedSimpArgs false
namespace Go.Proofs.YthhogfnghaikaaaDoor
open Go.RowKit Go.SX

def fieldIn (w : Nat) (f : Fd) : Nat := w / 2 ^ f.shift % 2 ^ (4 * f.dig)
def decT (w : Nat) (r : RowT) (j : Nat) : Ord := (r.fs.take j).foldl (fun o f => f.into o (fieldIn w f)) ⟨r.op, 0, 0, 0, 0, 0⟩
def decO (w : Nat) (r : RowT) : Ord := decT w r r.fs.length
def decode (w : Nat) : Option Ord := (rowOf w).map (decO w)
theorem decT_succ {w : Nat} {r : RowT} {j : Nat} {f : Fd} (h : r.fs[j]? = some f) : decT w r (j + 1) = f.into (decT w r j) (fieldIn w f) := by
  have hj := (List.getElem?_eq_some_iff.1 h).1
  unfold decT
  rw [List.take_add_one, h, List.foldl_append]
  rfl
theorem fieldIn_val (f : Fd) {w : Nat} (hw : w < 65536) : bits .and .i64 ((w : Int).fdiv (2 ^ min f.shift 64)) (IntKind.i64.wrap (IntKind.i64.wrap (1 * 2 ^ min (4 * f.dig) 64) - 1)) = ((fieldIn w f : Nat) : Int) := by
  have key : ∀ (x : Int) (i : Nat), 0 ≤ x → x < 65536 → i ≤ 16 → bits .and .i64 x (2 ^ i - 1) = x % 2 ^ i := fun x i h0 h1 hi => bits_mask .i64 62 (by decide) (fun n hn1 hn2 => w64 (by omega)) i (by omega) x h0 (by omega)
  have hd : (w : Int).fdiv (2 ^ min f.shift 64) = ((w / 2 ^ f.shift : Nat) : Int) := by
    rw [Nat.min_eq_left (by cases f <;> decide), show (2 : Int) ^ f.shift = ((2 ^ f.shift : Nat) : Int) by rw [Int.natCast_pow]; rfl, Int.fdiv_eq_ediv_of_nonneg _ (Int.natCast_nonneg _)]
    rfl
  have hm : (IntKind.i64.wrap (IntKind.i64.wrap (1 * 2 ^ min (4 * f.dig) 64) - 1)) = 2 ^ (4 * f.dig) - 1 := by cases f <;> rfl
  have hl : w / 2 ^ f.shift < 65536 := Nat.lt_of_le_of_lt (Nat.div_le_self _ _) hw
  rw [hd, hm, key _ _ (Int.natCast_nonneg _) (Int.ofNat_lt.2 hl) (by cases f <;> decide), fieldIn, show (2 : Int) ^ (4 * f.dig) = ((2 ^ (4 * f.dig) : Nat) : Int) by rw [Int.natCast_pow]; rfl]
  rfl
def decodeR (w : Nat) (L : Hp) (v : Value) (L' : Hp) : Prop :=
  match decode w with
  | some o => v = .tuple #[.agg o.cells.toArray, .bool true] ∧ L' = L
  | none => v = .tuple #[.agg zeroO.cells.toArray, .bool false] ∧ L' = L
theorem row_fs {w : Nat} {r : RowT} (h : rowOf w = some r) : r.op < 256 ∧ r.fs.length ≤ 3 := by
  have hm := List.mem_of_find?_eq_some h
  obtain ⟨j, hj⟩ := List.mem_iff_getElem?.1 hm
  have := table_in hj
  omega
set_option maxHeartbeats 1000000 in
set_option maxRecDepth 100000 in
theorem Decode_spec {Γ : Ctx} (hP : Γ.P = Tryd.prog) {L : Hp} {w : Nat} (hw : w < 65536) :
    SCall Γ 10 #[(.int .u16 (w : Int))] L (decodeR w L) := by
  refine SCall.enter (n := 43) (resX Γ [.cell 2 25, .tmp 3]) (hP ▸ Tryd.func10) rfl rfl (by simp) (resX_ok rfl) ?_
  refine SX.seq_k fun K1 hK1 => ?_
  refine SX.region ?_
  simp (maxSteps := 1000000) only [go_sem, add_addS, ia_someH, stK_e, Nat.reduceEqDiff, Nat.reduceBEq, ↓reduceIte, reduceCtorEq, Int.reduceEq, Nat.reduceLT, Nat.reduceLeDiff, Nat.reduceAdd, Nat.reduceMul, Nat.reduceSub, Int.reduceToNat, Int.reduceLT, Int.reduceLE, Int.reduceAdd, Int.reduceSub, Int.reduceMul, Int.reduceNeg, Nat.reducePow, Int.reducePow, hP]
  intro g2
  refine hK1 _ _ ?_
  try clear hK1 K1
  refine SX.seq_k fun K2 hK2 => ?_
  refine SX.region ?_
  simp (maxSteps := 1000000) only [go_sem, add_addS, ia_someH, stK_e, Nat.reduceEqDiff, Nat.reduceBEq, ↓reduceIte, reduceCtorEq, Int.reduceEq, Nat.reduceLT, Nat.reduceLeDiff, Nat.reduceAdd, Nat.reduceMul, Nat.reduceSub, Int.reduceToNat, Int.reduceLT, Int.reduceLE, Int.reduceAdd, Int.reduceSub, Int.reduceMul, Int.reduceNeg, Nat.reducePow, Int.reducePow, hP, zeroR, RowT.cells]
  rcases hr : rowOf w with _ | r
  · refine SCall.mono (rowOf_spec hP hw) ?_
    rintro v_ L_ h_
    rw [rowOfR, hr] at h_
    obtain ⟨rfl, rfl⟩ := h_
    try simp (maxSteps := 1000000) only [go_sem, add_addS, ia_someH, stK_e, Nat.reduceEqDiff, Nat.reduceBEq, ↓reduceIte, reduceCtorEq, Int.reduceEq, Nat.reduceLT, Nat.reduceLeDiff, Nat.reduceAdd, Nat.reduceMul, Nat.reduceSub, Int.reduceToNat, Int.reduceLT, Int.reduceLE, Int.reduceAdd, Int.reduceSub, Int.reduceMul, Int.reduceNeg, Nat.reducePow, Int.reducePow, hP, zeroR, RowT.cells]
    intro g4
    refine ⟨0, _, _, _, rfl, by simp [zeroR, RowT.cells, Ord.cells, zeroO], .inr (by decide), ?_⟩
    try simp (maxSteps := 1000000) only [go_sem, add_addS, ia_someH, stK_e, Nat.reduceEqDiff, Nat.reduceBEq, ↓reduceIte, reduceCtorEq, Int.reduceEq, Nat.reduceLT, Nat.reduceLeDiff, Nat.reduceAdd, Nat.reduceMul, Nat.reduceSub, Int.reduceToNat, Int.reduceLT, Int.reduceLE, Int.reduceAdd, Int.reduceSub, Int.reduceMul, Int.reduceNeg, Nat.reducePow, Int.reducePow, hP, zeroR, RowT.cells]
    refine hK2 _ _ ?_
    try clear hK2 K2
    refine SX.live [0, 2, 4, 5] (fun T1 hT1 => ?_)
    simp only [go_sem, add_addS, ia_someH, stK_e, Nat.reduceEqDiff, Nat.reduceBEq, ↓reduceIte, reduceCtorEq, Int.reduceEq, Nat.reduceLT, Nat.reduceLeDiff, Nat.reduceAdd, Nat.reduceMul, Nat.reduceSub, Int.reduceToNat, Int.reduceLT, Int.reduceLE, Int.reduceAdd, Int.reduceSub, Int.reduceMul, Int.reduceNeg, Nat.reducePow, Int.reducePow, forall_mem_cons', forall_mem_nil', hP] at hT1
    obtain ⟨h1_0, h1_2, h1_4, h1_5⟩ := hT1
    refine SX.seq_k fun K3 hK3 => ?_
    refine SX.seq_k fun K4 hK4 => ?_
    refine SX.region ?_
    simp (maxSteps := 1000000) only [go_sem, add_addS, ia_someH, stK_e, Nat.reduceEqDiff, Nat.reduceBEq, ↓reduceIte, reduceCtorEq, Int.reduceEq, Nat.reduceLT, Nat.reduceLeDiff, Nat.reduceAdd, Nat.reduceMul, Nat.reduceSub, Int.reduceToNat, Int.reduceLT, Int.reduceLE, Int.reduceAdd, Int.reduceSub, Int.reduceMul, Int.reduceNeg, Nat.reducePow, Int.reducePow, hP, h1_0, h1_2, h1_4, h1_5]
    refine hK4 _ _ ?_
    try clear hK4 K4
    refine SX.cond_k fun X5 Y5 hX5 hY5 => ?_
    simp (maxSteps := 1000000) only [go_sem, add_addS, ia_someH, stK_e, Nat.reduceEqDiff, Nat.reduceBEq, ↓reduceIte, reduceCtorEq, Int.reduceEq, Nat.reduceLT, Nat.reduceLeDiff, Nat.reduceAdd, Nat.reduceMul, Nat.reduceSub, Int.reduceToNat, Int.reduceLT, Int.reduceLE, Int.reduceAdd, Int.reduceSub, Int.reduceMul, Int.reduceNeg, Nat.reducePow, Int.reducePow, hP, h1_0, h1_2, h1_4, h1_5, condVC]
    refine hX5 ?_
    clear hX5 hY5 X5 Y5
    refine SX.seq_k fun K6 hK6 => ?_
    refine SX.region ?_
    simp (maxSteps := 1000000) only [go_sem, add_addS, ia_someH, stK_e, Nat.reduceEqDiff, Nat.reduceBEq, ↓reduceIte, reduceCtorEq, Int.reduceEq, Nat.reduceLT, Nat.reduceLeDiff, Nat.reduceAdd, Nat.reduceMul, Nat.reduceSub, Int.reduceToNat, Int.reduceLT, Int.reduceLE, Int.reduceAdd, Int.reduceSub, Int.reduceMul, Int.reduceNeg, Nat.reducePow, Int.reducePow, hP, h1_0, h1_2, h1_4, h1_5]
    refine ⟨1, _, _, _, rfl, by simp, .inr (by decide), ?_⟩
    try simp (maxSteps := 1000000) only [go_sem, add_addS, ia_someH, stK_e, Nat.reduceEqDiff, Nat.reduceBEq, ↓reduceIte, reduceCtorEq, Int.reduceEq, Nat.reduceLT, Nat.reduceLeDiff, Nat.reduceAdd, Nat.reduceMul, Nat.reduceSub, Int.reduceToNat, Int.reduceLT, Int.reduceLE, Int.reduceAdd, Int.reduceSub, Int.reduceMul, Int.reduceNeg, Nat.reducePow, Int.reducePow, hP, h1_0, h1_2, h1_4, h1_5]
    refine hK6 _ _ ?_
    try clear hK6 K6
    refine SX.ret ?_
    simp only [andThen_normal, andThen_ret, andThen_exit, inBlk_normal, inBlk_ret, inBlk_exit, Nat.reduceEqDiff, if_true, if_false, ↓reduceIte, retQ_ret]
    try simp only [go_sem, add_addS, ia_someH, stK_e, Nat.reduceEqDiff, Nat.reduceBEq, ↓reduceIte, reduceCtorEq, Int.reduceEq, Nat.reduceLT, Nat.reduceLeDiff, Nat.reduceAdd, Nat.reduceMul, Nat.reduceSub, Int.reduceToNat, Int.reduceLT, Int.reduceLE, Int.reduceAdd, Int.reduceSub, Int.reduceMul, Int.reduceNeg, Nat.reducePow, Int.reducePow, res0, res1, res2, res3, resX, resK, oneOr, hP, h1_0, h1_2, h1_4, h1_5]
    refine ⟨_, L, Less.drops (Less.drop _ _), ⟨_, Cell.at 1 rfl rfl, _, Cell.at 1 rfl rfl, _, Cell.at 1 rfl rfl, _, Cell.at 1 rfl rfl, _, Cell.at 1 rfl rfl, _, Cell.at 1 rfl rfl, rfl⟩, ?_⟩
    unfold decodeR decode
    rw [hr]
    exact ⟨rfl, rfl⟩
  · refine SCall.mono (rowOf_spec hP hw) ?_
    rintro v_ L_ h_
    rw [rowOfR, hr] at h_
    obtain ⟨H, fv, rfl, rfl, hfv⟩ := h_
    have hrf := row_fs hr
    obtain ⟨FA, fc, hfe, hfc, hfA⟩ := hfv (some (g2, .cells [.int .u8 0, .int .u8 0, .int .u8 0, .int .u8 0, .int .u8 0, .int .u16 0].toArray 25 (0, 0)) :: L)
    subst hfe
    try simp (maxSteps := 1000000) only [go_sem, add_addS, ia_someH, stK_e, Nat.reduceEqDiff, Nat.reduceBEq, ↓reduceIte, reduceCtorEq, Int.reduceEq, Nat.reduceLT, Nat.reduceLeDiff, Nat.reduceAdd, Nat.reduceMul, Nat.reduceSub, Int.reduceToNat, Int.reduceLT, Int.reduceLE, Int.reduceAdd, Int.reduceSub, Int.reduceMul, Int.reduceNeg, Nat.reducePow, Int.reducePow, hP, zeroR, RowT.cells]
    intro g4
    refine ⟨0, _, _, _, rfl, by simp [zeroR, RowT.cells, Ord.cells, zeroO], .inr (by decide), ?_⟩
    try simp (maxSteps := 1000000) only [go_sem, add_addS, ia_someH, stK_e, Nat.reduceEqDiff, Nat.reduceBEq, ↓reduceIte, reduceCtorEq, Int.reduceEq, Nat.reduceLT, Nat.reduceLeDiff, Nat.reduceAdd, Nat.reduceMul, Nat.reduceSub, Int.reduceToNat, Int.reduceLT, Int.reduceLE, Int.reduceAdd, Int.reduceSub, Int.reduceMul, Int.reduceNeg, Nat.reducePow, Int.reducePow, hP, zeroR, RowT.cells]
    refine hK2 _ _ ?_
    try clear hK2 K2
    refine SX.live [0, 2, 4, 5] (fun T2 hT2 => ?_)
    simp only [go_sem, add_addS, ia_someH, stK_e, Nat.reduceEqDiff, Nat.reduceBEq, ↓reduceIte, reduceCtorEq, Int.reduceEq, Nat.reduceLT, Nat.reduceLeDiff, Nat.reduceAdd, Nat.reduceMul, Nat.reduceSub, Int.reduceToNat, Int.reduceLT, Int.reduceLE, Int.reduceAdd, Int.reduceSub, Int.reduceMul, Int.reduceNeg, Nat.reducePow, Int.reducePow, forall_mem_cons', forall_mem_nil', hP] at hT2
    obtain ⟨h2_0, h2_2, h2_4, h2_5⟩ := hT2
    refine SX.seq_k fun K7 hK7 => ?_
    refine SX.seq_k fun K8 hK8 => ?_
    refine SX.region ?_
    simp (maxSteps := 1000000) only [go_sem, add_addS, ia_someH, stK_e, Nat.reduceEqDiff, Nat.reduceBEq, ↓reduceIte, reduceCtorEq, Int.reduceEq, Nat.reduceLT, Nat.reduceLeDiff, Nat.reduceAdd, Nat.reduceMul, Nat.reduceSub, Int.reduceToNat, Int.reduceLT, Int.reduceLE, Int.reduceAdd, Int.reduceSub, Int.reduceMul, Int.reduceNeg, Nat.reducePow, Int.reducePow, hP, h2_0, h2_2, h2_4, h2_5]
    refine hK8 _ _ ?_
    try clear hK8 K8
    refine SX.cond_k fun X9 Y9 hX9 hY9 => ?_
    simp (maxSteps := 1000000) only [go_sem, add_addS, ia_someH, stK_e, Nat.reduceEqDiff, Nat.reduceBEq, ↓reduceIte, reduceCtorEq, Int.reduceEq, Nat.reduceLT, Nat.reduceLeDiff, Nat.reduceAdd, Nat.reduceMul, Nat.reduceSub, Int.reduceToNat, Int.reduceLT, Int.reduceLE, Int.reduceAdd, Int.reduceSub, Int.reduceMul, Int.reduceNeg, Nat.reducePow, Int.reducePow, hP, h2_0, h2_2, h2_4, h2_5, condVC]
    refine hY9 ?_
    clear hX9 hY9 X9 Y9
    refine SX.skip ?_
    try simp only [andThen_normal, andThen_ret, andThen_exit, inBlk_normal, inBlk_ret, inBlk_exit, Nat.reduceEqDiff, if_true, if_false, reduceIte]
    refine hK7 _ _ ?_
    try clear hK7 K7
    refine SX.seq_k fun K10 hK10 => ?_
    refine SX.region ?_
    simp (maxSteps := 1000000) only [go_sem, add_addS, ia_someH, stK_e, Nat.reduceEqDiff, Nat.reduceBEq, ↓reduceIte, reduceCtorEq, Int.reduceEq, Nat.reduceLT, Nat.reduceLeDiff, Nat.reduceAdd, Nat.reduceMul, Nat.reduceSub, Int.reduceToNat, Int.reduceLT, Int.reduceLE, Int.reduceAdd, Int.reduceSub, Int.reduceMul, Int.reduceNeg, Nat.reducePow, Int.reducePow, hP, h2_0, h2_2, h2_4, h2_5]
    refine ⟨_, Cell.at 0 rfl rfl, ?_⟩
    try simp (maxSteps := 1000000) only [go_sem, add_addS, ia_someH, stK_e, Nat.reduceEqDiff, Nat.reduceBEq, ↓reduceIte, reduceCtorEq, Int.reduceEq, Nat.reduceLT, Nat.reduceLeDiff, Nat.reduceAdd, Nat.reduceMul, Nat.reduceSub, Int.reduceToNat, Int.reduceLT, Int.reduceLE, Int.reduceAdd, Int.reduceSub, Int.reduceMul, Int.reduceNeg, Nat.reducePow, Int.reducePow, hP, h2_0, h2_2, h2_4, h2_5]
    intro g6
    refine ⟨0, _, _, _, rfl, by simp [zeroR, RowT.cells, Ord.cells, zeroO], .inr (by decide), ?_⟩
    try simp (maxSteps := 1000000) only [go_sem, add_addS, ia_someH, stK_e, Nat.reduceEqDiff, Nat.reduceBEq, ↓reduceIte, reduceCtorEq, Int.reduceEq, Nat.reduceLT, Nat.reduceLeDiff, Nat.reduceAdd, Nat.reduceMul, Nat.reduceSub, Int.reduceToNat, Int.reduceLT, Int.reduceLE, Int.reduceAdd, Int.reduceSub, Int.reduceMul, Int.reduceNeg, Nat.reducePow, Int.reducePow, hP, h2_0, h2_2, h2_4, h2_5]
    refine hK10 _ _ ?_
    try clear hK10 K10
    refine SX.seq_k fun K11 hK11 => ?_
    refine SX.seq_k fun K12 hK12 => ?_
    refine SX.region ?_
    simp (maxSteps := 1000000) only [go_sem, add_addS, ia_someH, stK_e, Nat.reduceEqDiff, Nat.reduceBEq, ↓reduceIte, reduceCtorEq, Int.reduceEq, Nat.reduceLT, Nat.reduceLeDiff, Nat.reduceAdd, Nat.reduceMul, Nat.reduceSub, Int.reduceToNat, Int.reduceLT, Int.reduceLE, Int.reduceAdd, Int.reduceSub, Int.reduceMul, Int.reduceNeg, Nat.reducePow, Int.reducePow, hP, h2_0, h2_2, h2_4, h2_5]
    refine ⟨_, Cell.at 1 rfl rfl, ?_⟩
    try simp (maxSteps := 1000000) only [go_sem, add_addS, ia_someH, stK_e, Nat.reduceEqDiff, Nat.reduceBEq, ↓reduceIte, reduceCtorEq, Int.reduceEq, Nat.reduceLT, Nat.reduceLeDiff, Nat.reduceAdd, Nat.reduceMul, Nat.reduceSub, Int.reduceToNat, Int.reduceLT, Int.reduceLE, Int.reduceAdd, Int.reduceSub, Int.reduceMul, Int.reduceNeg, Nat.reducePow, Int.reducePow, hP, h2_0, h2_2, h2_4, h2_5]
    refine hK12 _ _ ?_
    try clear hK12 K12
    refine SX.live [0, 2, 6, 21, 22, 23] (fun T3 hT3 => ?_)
    simp only [go_sem, add_addS, ia_someH, stK_e, Nat.reduceEqDiff, Nat.reduceBEq, ↓reduceIte, reduceCtorEq, Int.reduceEq, Nat.reduceLT, Nat.reduceLeDiff, Nat.reduceAdd, Nat.reduceMul, Nat.reduceSub, Int.reduceToNat, Int.reduceLT, Int.reduceLE, Int.reduceAdd, Int.reduceSub, Int.reduceMul, Int.reduceNeg, Nat.reducePow, Int.reducePow, forall_mem_cons', forall_mem_nil', hP, h2_0, h2_2, h2_4, h2_5] at hT3
    obtain ⟨h3_0, h3_2, h3_6, h3_21, h3_22, h3_23⟩ := hT3
    clear h2_0 h2_2 h2_4 h2_5 T2
    refine SX.block ?_
    refine SX.live [0, 2, 6, 21, 22, 23] (fun T4 hT4 => ?_)
    simp only [go_sem, add_addS, ia_someH, stK_e, Nat.reduceEqDiff, Nat.reduceBEq, ↓reduceIte, reduceCtorEq, Int.reduceEq, Nat.reduceLT, Nat.reduceLeDiff, Nat.reduceAdd, Nat.reduceMul, Nat.reduceSub, Int.reduceToNat, Int.reduceLT, Int.reduceLE, Int.reduceAdd, Int.reduceSub, Int.reduceMul, Int.reduceNeg, Nat.reducePow, Int.reducePow, forall_mem_cons', forall_mem_nil', hP, h3_0, h3_2, h3_6, h3_21, h3_22, h3_23] at hT4
    obtain ⟨h4_0, h4_2, h4_6, h4_21, h4_22, h4_23⟩ := hT4
    clear h3_0 h3_2 h3_6 h3_21 h3_22 h3_23 T3
    refine SX.loop_k (fun (ss : (Nat)) T L' => (fun (j : Nat) => T 23 = .int .i64 (j : Int) ∧ T 0 = T4 0 ∧ T 2 = T4 2 ∧ T 6 = T4 6 ∧ T 21 = T4 21 ∧ T 22 = T4 22 ∧ L' = some (g6, .cells (decT w r j).cells.toArray 25 (0, 0)) :: some (g4, .cells [.int .u8 (r.op : Int), .int .u16 (r.mask : Int), .int .u16 (r.word : Int), .string r.name, .slice FA r.fs.length fc].toArray 58 (0, 0)) :: (H ++ some (g2, .cells [.int .u8 0, .int .u8 0, .int .u8 0, .int .u8 0, .int .u8 0, .int .u16 0].toArray 25 (0, 0)) :: L) ∧ (j ≤ r.fs.length)) (ss)) (fun (ss : (Nat)) => (fun (j : Nat) => r.fs.length - j) (ss)) 0 ?_ ?_
    · try dsimp only
      refine ⟨?_, ?_, ?_, ?_, ?_, ?_, ?_, ?_⟩
      · first | exact h4_23 | (rw [h4_23]; rfl) | (rw [h4_23]; simp; done)
      · rfl
      · rfl
      · rfl
      · rfl
      · rfl
      · rfl
      · exact Nat.zero_le _
    · intro j T5 L5 hI K13 hK13
      try dsimp only at hI hK13
      simp only [h4_0, h4_2, h4_6, h4_21, h4_22] at hI hK13
      obtain ⟨h5_23, h5_0, h5_2, h5_6, h5_21, h5_22, hL5, hj⟩ := hI
      replace hL5 := hL5.symm
      subst hL5
      clear h4_0 h4_2 h4_6 h4_21 h4_22 h4_23 T4
      refine SX.seq_k fun K14 hK14 => ?_
      refine SX.region ?_
      simp (maxSteps := 1000000) only [go_sem, add_addS, ia_someH, stK_e, Nat.reduceEqDiff, Nat.reduceBEq, ↓reduceIte, reduceCtorEq, Int.reduceEq, Nat.reduceLT, Nat.reduceLeDiff, Nat.reduceAdd, Nat.reduceMul, Nat.reduceSub, Int.reduceToNat, Int.reduceLT, Int.reduceLE, Int.reduceAdd, Int.reduceSub, Int.reduceMul, Int.reduceNeg, Nat.reducePow, Int.reducePow, hP, h5_23, h5_0, h5_2, h5_6, h5_21, h5_22]
      refine hK14 _ _ ?_
      try clear hK14 K14
      refine SX.seq_k fun K15 hK15 => ?_
      refine SX.cond_k fun X16 Y16 hX16 hY16 => ?_
      simp (maxSteps := 1000000) only [go_sem, add_addS, ia_someH, stK_e, Nat.reduceEqDiff, Nat.reduceBEq, ↓reduceIte, reduceCtorEq, Int.reduceEq, Nat.reduceLT, Nat.reduceLeDiff, Nat.reduceAdd, Nat.reduceMul, Nat.reduceSub, Int.reduceToNat, Int.reduceLT, Int.reduceLE, Int.reduceAdd, Int.reduceSub, Int.reduceMul, Int.reduceNeg, Nat.reducePow, Int.reducePow, hP, h5_23, h5_0, h5_2, h5_6, h5_21, h5_22, condVC]
      refine ⟨fun hc24 => hX16 ?_, fun hc24 => hY16 ?_⟩
      · clear hX16 hY16 X16 Y16
        refine SX.skip ?_
        try simp only [andThen_normal, andThen_ret, andThen_exit, inBlk_normal, inBlk_ret, inBlk_exit, Nat.reduceEqDiff, if_true, if_false, reduceIte]
        refine hK15 _ _ ?_
        try clear hK15 K15
        refine SX.seq_k fun K17 hK17 => ?_
        refine SX.block ?_
        refine SX.seq_k fun K18 hK18 => ?_
        have hjl : j < r.fs.length := by omega
        have hf0 : r.fs[j]? = some r.fs[j] := List.getElem?_eq_getElem hjl
        obtain ⟨fa, hfa, hcl0⟩ := hfA j _ hf0
        generalize r.fs[j] = f at hf0 hcl0
        have hcl : ∀ i u, f.cells[i]? = some u → Cell Γ (some (g6, .cells (decT w r j).cells.toArray 25 (0, 0)) :: some (g4, .cells [.int .u8 (r.op : Int), .int .u16 (r.mask : Int), .int .u16 (r.word : Int), .string r.name, .slice FA r.fs.length fc].toArray 58 (0, 0)) :: (H ++ some (g2, .cells [.int .u8 0, .int .u8 0, .int .u8 0, .int .u8 0, .int .u8 0, .int .u16 0].toArray 25 (0, 0)) :: L)) (fa.add (j * 5 + i)) u := fun i u h => by rw [← add_addS]; exact Cell.cons _ (Cell.cons _ (hcl0 i u h))
        refine SX.region ?_
        simp (maxSteps := 1000000) only [go_sem, add_addS, ia_someH, stK_e, Nat.reduceEqDiff, Nat.reduceBEq, ↓reduceIte, reduceCtorEq, Int.reduceEq, Nat.reduceLT, Nat.reduceLeDiff, Nat.reduceAdd, Nat.reduceMul, Nat.reduceSub, Int.reduceToNat, Int.reduceLT, Int.reduceLE, Int.reduceAdd, Int.reduceSub, Int.reduceMul, Int.reduceNeg, Nat.reducePow, Int.reducePow, hP, h5_23, h5_0, h5_2, h5_6, h5_21, h5_22]
        refine ⟨⟨by omega, by omega⟩, fa, hfa, _, hcl 0 _ rfl, _, hcl 1 _ rfl, _, hcl 2 _ rfl, _, hcl 3 _ rfl, _, hcl 4 _ rfl, ?_⟩
        try simp (maxSteps := 1000000) only [go_sem, add_addS, ia_someH, stK_e, Nat.reduceEqDiff, Nat.reduceBEq, ↓reduceIte, reduceCtorEq, Int.reduceEq, Nat.reduceLT, Nat.reduceLeDiff, Nat.reduceAdd, Nat.reduceMul, Nat.reduceSub, Int.reduceToNat, Int.reduceLT, Int.reduceLE, Int.reduceAdd, Int.reduceSub, Int.reduceMul, Int.reduceNeg, Nat.reducePow, Int.reducePow, hP, h5_23, h5_0, h5_2, h5_6, h5_21, h5_22]
        intro g8
        refine ⟨0, _, _, _, rfl, by simp, .inr (by decide), ?_⟩
        try simp (maxSteps := 1000000) only [go_sem, add_addS, ia_someH, stK_e, Nat.reduceEqDiff, Nat.reduceBEq, ↓reduceIte, reduceCtorEq, Int.reduceEq, Nat.reduceLT, Nat.reduceLeDiff, Nat.reduceAdd, Nat.reduceMul, Nat.reduceSub, Int.reduceToNat, Int.reduceLT, Int.reduceLE, Int.reduceAdd, Int.reduceSub, Int.reduceMul, Int.reduceNeg, Nat.reducePow, Int.reducePow, hP, h5_23, h5_0, h5_2, h5_6, h5_21, h5_22]
        refine hK18 _ _ ?_
        try clear hK18 K18
        have q1 : IntKind.i64.wrap (w : Int) = (w : Int) := w64 (by omega)
        have q2 : IntKind.i64.wrap (4 * (f.dig : Int)) = ((4 * f.dig : Nat) : Int) := by cases f <;> rfl
        refine SX.drawn [(0, .q), (1, .q), (2, .q), (3, .q), (4, .q), (5, .q), (6, .q), (7, .q), (8, .q), (9, .q), (10, .q), (11, .q), (12, .q), (13, .t)] (fun L => L) (hP ▸ T.mixed) (by kernel_rfl) (by exact Less.refl _) ?_
        simp (maxSteps := 1000000) only [go_sem, add_addS, ia_someH, stK_e, Nat.reduceEqDiff, Nat.reduceBEq, ↓reduceIte, reduceCtorEq, Int.reduceEq, Nat.reduceLT, Nat.reduceLeDiff, Nat.reduceAdd, Nat.reduceMul, Nat.reduceSub, Int.reduceToNat, Int.reduceLT, Int.reduceLE, Int.reduceAdd, Int.reduceSub, Int.reduceMul, Int.reduceNeg, Nat.reducePow, Int.reducePow, hP, h5_23, h5_0, h5_2, h5_6, h5_21, h5_22, q1, q2]
        refine ⟨_, Cell.at 0 rfl rfl, _, Cell.at 0 rfl rfl, ?_⟩
        try simp (maxSteps := 1000000) only [go_sem, add_addS, ia_someH, stK_e, Nat.reduceEqDiff, Nat.reduceBEq, ↓reduceIte, reduceCtorEq, Int.reduceEq, Nat.reduceLT, Nat.reduceLeDiff, Nat.reduceAdd, Nat.reduceMul, Nat.reduceSub, Int.reduceToNat, Int.reduceLT, Int.reduceLE, Int.reduceAdd, Int.reduceSub, Int.reduceMul, Int.reduceNeg, Nat.reducePow, Int.reducePow, hP, h5_23, h5_0, h5_2, h5_6, h5_21, h5_22, q1, q2]
        refine ⟨by omega, _, Cell.at 0 rfl rfl, ?_⟩
        try simp (maxSteps := 1000000) only [go_sem, add_addS, ia_someH, stK_e, Nat.reduceEqDiff, Nat.reduceBEq, ↓reduceIte, reduceCtorEq, Int.reduceEq, Nat.reduceLT, Nat.reduceLeDiff, Nat.reduceAdd, Nat.reduceMul, Nat.reduceSub, Int.reduceToNat, Int.reduceLT, Int.reduceLE, Int.reduceAdd, Int.reduceSub, Int.reduceMul, Int.reduceNeg, Nat.reducePow, Int.reducePow, hP, h5_23, h5_0, h5_2, h5_6, h5_21, h5_22, q1, q2]
        refine ⟨by omega, ?_⟩
        try simp (maxSteps := 1000000) only [go_sem, add_addS, ia_someH, stK_e, Nat.reduceEqDiff, Nat.reduceBEq, ↓reduceIte, reduceCtorEq, Int.reduceEq, Nat.reduceLT, Nat.reduceLeDiff, Nat.reduceAdd, Nat.reduceMul, Nat.reduceSub, Int.reduceToNat, Int.reduceLT, Int.reduceLE, Int.reduceAdd, Int.reduceSub, Int.reduceMul, Int.reduceNeg, Nat.reducePow, Int.reducePow, hP, h5_23, h5_0, h5_2, h5_6, h5_21, h5_22, q1, q2]
        rw [fieldIn_val f hw]
        refine ⟨callable_put f, ?_⟩
        refine SCall.mono (put_spec (i := 1) hP f rfl) ?_
        rintro v_ L_ ⟨hv_, hL_⟩
        rw [hv_, hL_]
        clear hv_ hL_ v_ L_
        try simp (maxSteps := 1000000) only [go_sem, add_addS, ia_someH, stK_e, Nat.reduceEqDiff, Nat.reduceBEq, ↓reduceIte, reduceCtorEq, Int.reduceEq, Nat.reduceLT, Nat.reduceLeDiff, Nat.reduceAdd, Nat.reduceMul, Nat.reduceSub, Int.reduceToNat, Int.reduceLT, Int.reduceLE, Int.reduceAdd, Int.reduceSub, Int.reduceMul, Int.reduceNeg, Nat.reducePow, Int.reducePow, hP, h5_23, h5_0, h5_2, h5_6, h5_21, h5_22, q1, q2]
        refine hK17 _ _ ?_
        try clear hK17 K17
        refine SX.live [0, 2, 6, 21, 22, 23] (fun T6 hT6 => ?_)
        simp only [go_sem, add_addS, ia_someH, stK_e, Nat.reduceEqDiff, Nat.reduceBEq, ↓reduceIte, reduceCtorEq, Int.reduceEq, Nat.reduceLT, Nat.reduceLeDiff, Nat.reduceAdd, Nat.reduceMul, Nat.reduceSub, Int.reduceToNat, Int.reduceLT, Int.reduceLE, Int.reduceAdd, Int.reduceSub, Int.reduceMul, Int.reduceNeg, Nat.reducePow, Int.reducePow, forall_mem_cons', forall_mem_nil', hP, h5_23, h5_0, h5_2, h5_6, h5_21, h5_22] at hT6
        obtain ⟨h6_0, h6_2, h6_6, h6_21, h6_22, h6_23⟩ := hT6
        clear h5_23 h5_0 h5_2 h5_6 h5_21 h5_22 T5
        refine SX.region ?_
        simp (maxSteps := 1000000) only [go_sem, add_addS, ia_someH, stK_e, Nat.reduceEqDiff, Nat.reduceBEq, ↓reduceIte, reduceCtorEq, Int.reduceEq, Nat.reduceLT, Nat.reduceLeDiff, Nat.reduceAdd, Nat.reduceMul, Nat.reduceSub, Int.reduceToNat, Int.reduceLT, Int.reduceLE, Int.reduceAdd, Int.reduceSub, Int.reduceMul, Int.reduceNeg, Nat.reducePow, Int.reducePow, hP, h6_0, h6_2, h6_6, h6_21, h6_22, h6_23]
        refine hK13 (j + 1) _ (some (g6, .cells (f.into (decT w r j) (fieldIn w f)).cells.toArray 25 (0, 0)) :: some (g4, .cells [.int .u8 (r.op : Int), .int .u16 (r.mask : Int), .int .u16 (r.word : Int), .string r.name, .slice FA r.fs.length fc].toArray 58 (0, 0)) :: (H ++ some (g2, .cells [.int .u8 0, .int .u8 0, .int .u8 0, .int .u8 0, .int .u8 0, .int .u16 0].toArray 25 (0, 0)) :: L)) _ (by first | exact Less.refl _ | exact Less.drop _ _ | exact Less.drops (Less.drop _ _) | exact Less.drops (Less.drops (Less.drop _ _)) | exact Less.drops (Less.drops (Less.drops (Less.drop _ _))) | exact Less.drops (Less.drops (Less.drops (Less.drops (Less.drop _ _))))) ?_ ?_
        · try dsimp only
          refine ⟨?_, ?_, ?_, ?_, ?_, ?_, ?_, ?_⟩
          · simp (maxSteps := 1000000) only [go_sem, add_addS, ia_someH, stK_e, Nat.reduceEqDiff, Nat.reduceBEq, ↓reduceIte, reduceCtorEq, Int.reduceEq, Nat.reduceLT, Nat.reduceLeDiff, Nat.reduceAdd, Nat.reduceMul, Nat.reduceSub, Int.reduceToNat, Int.reduceLT, Int.reduceLE, Int.reduceAdd, Int.reduceSub, Int.reduceMul, Int.reduceNeg, Nat.reducePow, Int.reducePow, hP, h6_0, h6_2, h6_6, h6_21, h6_22, h6_23]
            rw [inc64 (by omega)]
          · simp (maxSteps := 1000000) only [go_sem, add_addS, ia_someH, stK_e, Nat.reduceEqDiff, Nat.reduceBEq, ↓reduceIte, reduceCtorEq, Int.reduceEq, Nat.reduceLT, Nat.reduceLeDiff, Nat.reduceAdd, Nat.reduceMul, Nat.reduceSub, Int.reduceToNat, Int.reduceLT, Int.reduceLE, Int.reduceAdd, Int.reduceSub, Int.reduceMul, Int.reduceNeg, Nat.reducePow, Int.reducePow, hP, h6_0, h6_2, h6_6, h6_21, h6_22, h6_23]
          · simp (maxSteps := 1000000) only [go_sem, add_addS, ia_someH, stK_e, Nat.reduceEqDiff, Nat.reduceBEq, ↓reduceIte, reduceCtorEq, Int.reduceEq, Nat.reduceLT, Nat.reduceLeDiff, Nat.reduceAdd, Nat.reduceMul, Nat.reduceSub, Int.reduceToNat, Int.reduceLT, Int.reduceLE, Int.reduceAdd, Int.reduceSub, Int.reduceMul, Int.reduceNeg, Nat.reducePow, Int.reducePow, hP, h6_0, h6_2, h6_6, h6_21, h6_22, h6_23]
          · simp (maxSteps := 1000000) only [go_sem, add_addS, ia_someH, stK_e, Nat.reduceEqDiff, Nat.reduceBEq, ↓reduceIte, reduceCtorEq, Int.reduceEq, Nat.reduceLT, Nat.reduceLeDiff, Nat.reduceAdd, Nat.reduceMul, Nat.reduceSub, Int.reduceToNat, Int.reduceLT, Int.reduceLE, Int.reduceAdd, Int.reduceSub, Int.reduceMul, Int.reduceNeg, Nat.reducePow, Int.reducePow, hP, h6_0, h6_2, h6_6, h6_21, h6_22, h6_23]
          · simp (maxSteps := 1000000) only [go_sem, add_addS, ia_someH, stK_e, Nat.reduceEqDiff, Nat.reduceBEq, ↓reduceIte, reduceCtorEq, Int.reduceEq, Nat.reduceLT, Nat.reduceLeDiff, Nat.reduceAdd, Nat.reduceMul, Nat.reduceSub, Int.reduceToNat, Int.reduceLT, Int.reduceLE, Int.reduceAdd, Int.reduceSub, Int.reduceMul, Int.reduceNeg, Nat.reducePow, Int.reducePow, hP, h6_0, h6_2, h6_6, h6_21, h6_22, h6_23]
          · simp (maxSteps := 1000000) only [go_sem, add_addS, ia_someH, stK_e, Nat.reduceEqDiff, Nat.reduceBEq, ↓reduceIte, reduceCtorEq, Int.reduceEq, Nat.reduceLT, Nat.reduceLeDiff, Nat.reduceAdd, Nat.reduceMul, Nat.reduceSub, Int.reduceToNat, Int.reduceLT, Int.reduceLE, Int.reduceAdd, Int.reduceSub, Int.reduceMul, Int.reduceNeg, Nat.reducePow, Int.reducePow, hP, h6_0, h6_2, h6_6, h6_21, h6_22, h6_23]
          · rw [decT_succ hf0]
          · omega
        · (try dsimp only); omega
      · clear hX16 hY16 X16 Y16
        refine SX.exit ?_
        try simp only [andThen_normal, andThen_ret, andThen_exit, inBlk_normal, inBlk_ret, inBlk_exit, Nat.reduceEqDiff, if_true, if_false, reduceIte]
        refine hK11 _ _ ?_
        try clear hK11 K11
        refine SX.seq_k fun K19 hK19 => ?_
        obtain rfl : j = r.fs.length := by omega
        refine SX.region ?_
        simp (maxSteps := 1000000) only [go_sem, add_addS, ia_someH, stK_e, Nat.reduceEqDiff, Nat.reduceBEq, ↓reduceIte, reduceCtorEq, Int.reduceEq, Nat.reduceLT, Nat.reduceLeDiff, Nat.reduceAdd, Nat.reduceMul, Nat.reduceSub, Int.reduceToNat, Int.reduceLT, Int.reduceLE, Int.reduceAdd, Int.reduceSub, Int.reduceMul, Int.reduceNeg, Nat.reducePow, Int.reducePow, hP, h5_23, h5_0, h5_2, h5_6, h5_21, h5_22]
        refine ⟨_, Cell.at 0 rfl rfl, _, Cell.at 0 rfl rfl, _, Cell.at 0 rfl rfl, _, Cell.at 0 rfl rfl, _, Cell.at 0 rfl rfl, _, Cell.at 0 rfl rfl, ?_⟩
        try simp (maxSteps := 1000000) only [go_sem, add_addS, ia_someH, stK_e, Nat.reduceEqDiff, Nat.reduceBEq, ↓reduceIte, reduceCtorEq, Int.reduceEq, Nat.reduceLT, Nat.reduceLeDiff, Nat.reduceAdd, Nat.reduceMul, Nat.reduceSub, Int.reduceToNat, Int.reduceLT, Int.reduceLE, Int.reduceAdd, Int.reduceSub, Int.reduceMul, Int.reduceNeg, Nat.reducePow, Int.reducePow, hP, h5_23, h5_0, h5_2, h5_6, h5_21, h5_22]
        refine ⟨H.length + 2, _, _, _, by rw [List.getElem?_cons_succ, List.getElem?_cons_succ]; exact get_mid _ _ _, by simp, .inr (Nat.zero_le _), ?_⟩
        try simp (maxSteps := 1000000) only [go_sem, add_addS, ia_someH, stK_e, Nat.reduceEqDiff, Nat.reduceBEq, ↓reduceIte, reduceCtorEq, Int.reduceEq, Nat.reduceLT, Nat.reduceLeDiff, Nat.reduceAdd, Nat.reduceMul, Nat.reduceSub, Int.reduceToNat, Int.reduceLT, Int.reduceLE, Int.reduceAdd, Int.reduceSub, Int.reduceMul, Int.reduceNeg, Nat.reducePow, Int.reducePow, hP, h5_23, h5_0, h5_2, h5_6, h5_21, h5_22]
        rw [set_mid1]
        refine hK19 _ _ ?_
        try clear hK19 K19
        refine SX.ret ?_
        simp only [andThen_normal, andThen_ret, andThen_exit, inBlk_normal, inBlk_ret, inBlk_exit, Nat.reduceEqDiff, if_true, if_false, ↓reduceIte, retQ_ret]
        try simp only [go_sem, add_addS, ia_someH, stK_e, Nat.reduceEqDiff, Nat.reduceBEq, ↓reduceIte, reduceCtorEq, Int.reduceEq, Nat.reduceLT, Nat.reduceLeDiff, Nat.reduceAdd, Nat.reduceMul, Nat.reduceSub, Int.reduceToNat, Int.reduceLT, Int.reduceLE, Int.reduceAdd, Int.reduceSub, Int.reduceMul, Int.reduceNeg, Nat.reducePow, Int.reducePow, res0, res1, res2, res3, resX, resK, oneOr, hP, h5_23, h5_0, h5_2, h5_6, h5_21, h5_22]
        refine ⟨_, L, (Less.sublist (List.sublist_append_right (_ :: _ :: H) _)).trans (Less.drop _ _), ⟨_, Cell.at (H.length + 2) (by rw [List.getElem?_cons_succ, List.getElem?_cons_succ]; exact get_mid _ _ _) rfl, _, Cell.at (H.length + 2) (by rw [List.getElem?_cons_succ, List.getElem?_cons_succ]; exact get_mid _ _ _) rfl, _, Cell.at (H.length + 2) (by rw [List.getElem?_cons_succ, List.getElem?_cons_succ]; exact get_mid _ _ _) rfl, _, Cell.at (H.length + 2) (by rw [List.getElem?_cons_succ, List.getElem?_cons_succ]; exact get_mid _ _ _) rfl, _, Cell.at (H.length + 2) (by rw [List.getElem?_cons_succ, List.getElem?_cons_succ]; exact get_mid _ _ _) rfl, _, Cell.at (H.length + 2) (by rw [List.getElem?_cons_succ, List.getElem?_cons_succ]; exact get_mid _ _ _) rfl, rfl⟩, ?_⟩
        unfold decodeR decode
        rw [hr]
        exact ⟨rfl, rfl⟩

end Go.Proofs.YthhogfnghaikaaaDoor
