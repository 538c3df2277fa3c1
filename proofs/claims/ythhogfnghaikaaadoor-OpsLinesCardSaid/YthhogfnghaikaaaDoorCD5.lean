/- A part of the proof of OpsLinesCardSaid. -/
import Derived.Test.YthhogfnghaikaaaDoorCD4
set_option linter.unusedVariables false
set_option linter.unusedSimpArgs false
namespace Go.Proofs.YthhogfnghaikaaaDoor
open Go.RowKit Go.SX

/-! bits.Hex -/
def hexDg : List UInt8 := [48, 49, 50, 51, 52, 53, 54, 55, 56, 57, 97, 98, 99, 100, 101, 102]
def dg (k : Nat) : Int := ((hexDg.getD (k % 16) 0).toNat : Int)
def hexF : Nat → Nat → List Int
  | _, 0 => []
  | n, k + 1 => hexF (n / 16) k ++ [dg n]
theorem hexF_length : ∀ (k n : Nat), (hexF n k).length = k
  | 0, n => rfl
  | k + 1, n => by rw [hexF, List.length_append, hexF_length k]; rfl
theorem dg_lt (k : Nat) : 0 ≤ dg k ∧ dg k ≤ 255 := by
  have : ∀ j, j < 16 → 0 ≤ dg j ∧ dg j ≤ 255 := by decide
  have h := this (k % 16) (Nat.mod_lt _ (by decide))
  unfold dg at h ⊢
  rwa [Nat.mod_mod] at h
theorem hexF_byte : ∀ (k n : Nat), Byte (hexF n k)
  | 0, n => fun x hx => by cases hx
  | k + 1, n => fun x hx => by
    rw [hexF] at hx
    rcases List.mem_append.1 hx with h | h
    · exact hexF_byte k _ x h
    · rw [List.mem_singleton.1 h]; exact dg_lt n
theorem dg_at (n : Nat) : ∃ b : UInt8, hexDg[n % 16]? = some b ∧ (b.toNat : Int) = dg n := by
  have hl : n % 16 < hexDg.length := Nat.mod_lt _ (by decide)
  refine ⟨hexDg[n % 16], List.getElem?_eq_getElem hl, ?_⟩
  unfold dg
  rw [List.getD_eq_getElem?_getD, List.getElem?_eq_getElem hl]
  rfl
def hexS (n k : Nat) : ByteArray := txt (hexF n k)
theorem and15 (n : Nat) (h : n < 4294967296) : bits .and .i64 (n : Int) 15 = ((n % 16 : Nat) : Int) := by
  have key := bits_mask .i64 62 (by decide) (fun n hn1 hn2 => w64 (by omega)) 4 (by decide) (n : Int) (Int.natCast_nonneg _) (by omega)
  rw [show (2 : Int) ^ 4 - 1 = 15 from rfl] at key
  rw [key]
  rfl
theorem shr4 (n : Nat) : Int.fdiv (n : Int) (2 ^ min (4 : Int).toNat 64) = ((n / 16 : Nat) : Int) := by
  rw [show (2 : Int) ^ min (4 : Int).toNat 64 = 16 from rfl, Int.fdiv_eq_ediv_of_nonneg _ (by decide)]
  rfl
theorem shr4' (n : Nat) : Int.fdiv (n : Int) (2 ^ min (4 : Nat) 64) = ((n / 16 : Nat) : Int) := shr4 n
theorem set_suf {m i : Nat} (h : i < m) (S : List Int) (d : Int) : (List.replicate (m - i) 0 ++ S).set (m - 1 - i) d = List.replicate (m - (i + 1)) 0 ++ d :: S := by
  obtain ⟨k, hk⟩ : ∃ k, m - i = k + 1 := ⟨m - i - 1, by omega⟩
  rw [hk, show m - 1 - i = k by omega, show m - (i + 1) = k by omega, List.replicate_succ', List.append_assoc, List.set_append_right _ _ (by simp)]
  simp
theorem div16 (n i : Nat) : n / 16 ^ i / 16 = n / 16 ^ (i + 1) := by rw [Nat.div_div_eq_div_mul, Nat.pow_succ]
set_option maxHeartbeats 1000000 in
set_option maxRecDepth 100000 in
theorem Hex_spec {Γ : Ctx} (hP : Γ.P = Tryd.prog) {L : Hp} {n m : Nat} (hm0 : 1 ≤ m) (hm : m ≤ 4) (hn : n < 16 ^ m) :
    SCall Γ 18 #[(.int .i64 (n : Int)), (.int .i64 (m : Int))] L (fun v L' => v = .string (hexS n m) ∧ L' = L) := by
  refine SCall.enter (n := 45) (res1 4) (hP ▸ Tryd.func18) rfl rfl (by simp) (res1_ok rfl) ?_
  refine SX.seq_k fun K1 hK1 => ?_
  refine SX.region_d [some 4] rfl (fun ops hops => ?_)
  unfold Dsts at hops
  simp (maxSteps := 1000000) (dsimp := false) (disch := omega) only [go_sem, add_addS, ia_someH, wu8, wu16, w32, wu32, wu64, w64, Nat.reduceEqDiff, Nat.reduceBEq, ↓reduceIte, reduceCtorEq, Int.reduceEq, Nat.reduceLT, Nat.reduceLeDiff, Nat.reduceAdd, Nat.reduceMul, Nat.reduceSub, Int.reduceToNat, Int.reduceLT, Int.reduceLE, Int.reduceAdd, Int.reduceSub, Int.reduceMul, Int.reduceNeg, Nat.reducePow, Int.reducePow, hP, ltT, ltF, leT, leF, eqT, eqF, hops]
  refine hK1 _ _ ?_
  try clear hK1 K1
  refine SX.seq_k fun K2 hK2 => ?_
  refine SX.seq_k fun K3 hK3 => ?_
  have hp : IntKind.i64.wrap (1 * 2 ^ min ((4 : Int) * (m : Int)).toNat 64) = ((16 ^ m : Nat) : Int) := by
    have hm8 : m = 1 ∨ m = 2 ∨ m = 3 ∨ m = 4 := by omega
    rcases hm8 with rfl | rfl | rfl | rfl <;> rfl
  have hn' : (n : Int) < ((16 ^ m : Nat) : Int) := Int.ofNat_lt.2 hn
  refine SX.region_d [some 7, some 8, some 9, some 10, some 11, some 12, some 13, some 14, some 15, some 16, some 17, some 18, some 19, some 20, some 21, some 22, some 23] rfl (fun ops hops => ?_)
  unfold Dsts at hops
  simp (maxSteps := 1000000) (dsimp := false) (disch := omega) only [go_sem, add_addS, ia_someH, wu8, wu16, w32, wu32, wu64, w64, Nat.reduceEqDiff, Nat.reduceBEq, ↓reduceIte, reduceCtorEq, Int.reduceEq, Nat.reduceLT, Nat.reduceLeDiff, Nat.reduceAdd, Nat.reduceMul, Nat.reduceSub, Int.reduceToNat, Int.reduceLT, Int.reduceLE, Int.reduceAdd, Int.reduceSub, Int.reduceMul, Int.reduceNeg, Nat.reducePow, Int.reducePow, hP, ltT, ltF, leT, leF, eqT, eqF, hops, hp]
  repeat' ((first | refine And.intro (by omega) ?_ | fail); try (with_reducible refine stI ?_); try simp (maxSteps := 1000000) (dsimp := false) (disch := omega) only [go_sem, add_addS, ia_someH, wu8, wu16, w32, wu32, wu64, w64, Nat.reduceEqDiff, Nat.reduceBEq, ↓reduceIte, reduceCtorEq, Int.reduceEq, Nat.reduceLT, Nat.reduceLeDiff, Nat.reduceAdd, Nat.reduceMul, Nat.reduceSub, Int.reduceToNat, Int.reduceLT, Int.reduceLE, Int.reduceAdd, Int.reduceSub, Int.reduceMul, Int.reduceNeg, Nat.reducePow, Int.reducePow, hP, ltT, ltF, leT, leF, eqT, eqF, hops, hp])
  refine hK3 _ _ ?_
  try clear hK3 K3
  refine SX.live [0, 1, 23] (fun T1 hT1 => ?_)
  simp only [forall_mem_cons', forall_mem_nil', go_sem, add_addS, ia_someH, wu8, wu16, w32, wu32, wu64, w64, Nat.reduceEqDiff, Nat.reduceBEq, ↓reduceIte, reduceCtorEq, Int.reduceEq, Nat.reduceLT, Nat.reduceLeDiff, Nat.reduceAdd, Nat.reduceMul, Nat.reduceSub, Int.reduceToNat, Int.reduceLT, Int.reduceLE, Int.reduceAdd, Int.reduceSub, Int.reduceMul, Int.reduceNeg, Nat.reducePow, Int.reducePow, hP, ltT, ltF, leT, leF, eqT, eqF] at hT1
  obtain ⟨h1_0, h1_1, h1_23⟩ := hT1
  refine SX.cond_k fun X4 Y4 hX4 hY4 => ?_
  simp (maxSteps := 1000000) (dsimp := false) (disch := omega) only [go_sem, add_addS, ia_someH, wu8, wu16, w32, wu32, wu64, w64, Nat.reduceEqDiff, Nat.reduceBEq, ↓reduceIte, reduceCtorEq, Int.reduceEq, Nat.reduceLT, Nat.reduceLeDiff, Nat.reduceAdd, Nat.reduceMul, Nat.reduceSub, Int.reduceToNat, Int.reduceLT, Int.reduceLE, Int.reduceAdd, Int.reduceSub, Int.reduceMul, Int.reduceNeg, Nat.reducePow, Int.reducePow, hP, h1_0, h1_1, h1_23, ltT, ltF, leT, leF, eqT, eqF, condVC]
  refine hY4 ?_
  clear hX4 hY4 X4 Y4
  refine SX.skip ?_
  try simp only [andThen_normal, andThen_ret, andThen_exit, inBlk_normal, inBlk_ret, inBlk_exit, Nat.reduceEqDiff, if_true, if_false, ↓reduceIte]
  refine hK2 _ _ ?_
  try clear hK2 K2
  refine SX.seq_k fun K5 hK5 => ?_
  refine SX.region_d [some 24, some 25, some 5] rfl (fun ops hops => ?_)
  unfold Dsts at hops
  simp (maxSteps := 1000000) (dsimp := false) (disch := omega) only [go_sem, add_addS, ia_someH, wu8, wu16, w32, wu32, wu64, w64, Nat.reduceEqDiff, Nat.reduceBEq, ↓reduceIte, reduceCtorEq, Int.reduceEq, Nat.reduceLT, Nat.reduceLeDiff, Nat.reduceAdd, Nat.reduceMul, Nat.reduceSub, Int.reduceToNat, Int.reduceLT, Int.reduceLE, Int.reduceAdd, Int.reduceSub, Int.reduceMul, Int.reduceNeg, Nat.reducePow, Int.reducePow, hP, h1_0, h1_1, h1_23, ltT, ltF, leT, leF, eqT, eqF, hops]
  repeat' ((first | intro g3 | refine And.intro (by omega) ?_ | fail); try (with_reducible refine stI ?_); try simp (maxSteps := 1000000) (dsimp := false) (disch := omega) only [go_sem, add_addS, ia_someH, wu8, wu16, w32, wu32, wu64, w64, Nat.reduceEqDiff, Nat.reduceBEq, ↓reduceIte, reduceCtorEq, Int.reduceEq, Nat.reduceLT, Nat.reduceLeDiff, Nat.reduceAdd, Nat.reduceMul, Nat.reduceSub, Int.reduceToNat, Int.reduceLT, Int.reduceLE, Int.reduceAdd, Int.reduceSub, Int.reduceMul, Int.reduceNeg, Nat.reducePow, Int.reducePow, hP, h1_0, h1_1, h1_23, ltT, ltF, leT, leF, eqT, eqF, hops])
  refine hK5 _ _ ?_
  try clear hK5 K5
  refine SX.seq_k fun K6 hK6 => ?_
  refine SX.seq_k fun K7 hK7 => ?_
  refine SX.region_d [some 26, some 27, some 28] rfl (fun ops hops => ?_)
  unfold Dsts at hops
  simp (maxSteps := 1000000) (dsimp := false) (disch := omega) only [go_sem, add_addS, ia_someH, wu8, wu16, w32, wu32, wu64, w64, Nat.reduceEqDiff, Nat.reduceBEq, ↓reduceIte, reduceCtorEq, Int.reduceEq, Nat.reduceLT, Nat.reduceLeDiff, Nat.reduceAdd, Nat.reduceMul, Nat.reduceSub, Int.reduceToNat, Int.reduceLT, Int.reduceLE, Int.reduceAdd, Int.reduceSub, Int.reduceMul, Int.reduceNeg, Nat.reducePow, Int.reducePow, hP, h1_0, h1_1, h1_23, ltT, ltF, leT, leF, eqT, eqF, hops]
  repeat' ((first | refine And.intro (by omega) ?_ | fail); try (with_reducible refine stI ?_); try simp (maxSteps := 1000000) (dsimp := false) (disch := omega) only [go_sem, add_addS, ia_someH, wu8, wu16, w32, wu32, wu64, w64, Nat.reduceEqDiff, Nat.reduceBEq, ↓reduceIte, reduceCtorEq, Int.reduceEq, Nat.reduceLT, Nat.reduceLeDiff, Nat.reduceAdd, Nat.reduceMul, Nat.reduceSub, Int.reduceToNat, Int.reduceLT, Int.reduceLE, Int.reduceAdd, Int.reduceSub, Int.reduceMul, Int.reduceNeg, Nat.reducePow, Int.reducePow, hP, h1_0, h1_1, h1_23, ltT, ltF, leT, leF, eqT, eqF, hops])
  refine hK7 _ _ ?_
  try clear hK7 K7
  refine SX.block ?_
  refine SX.live [0, 1, 5, 27, 28] (fun T2 hT2 => ?_)
  simp only [forall_mem_cons', forall_mem_nil', go_sem, add_addS, ia_someH, wu8, wu16, w32, wu32, wu64, w64, Nat.reduceEqDiff, Nat.reduceBEq, ↓reduceIte, reduceCtorEq, Int.reduceEq, Nat.reduceLT, Nat.reduceLeDiff, Nat.reduceAdd, Nat.reduceMul, Nat.reduceSub, Int.reduceToNat, Int.reduceLT, Int.reduceLE, Int.reduceAdd, Int.reduceSub, Int.reduceMul, Int.reduceNeg, Nat.reducePow, Int.reducePow, hP, h1_0, h1_1, h1_23, ltT, ltF, leT, leF, eqT, eqF] at hT2
  obtain ⟨h2_0, h2_1, h2_5, h2_27, h2_28⟩ := hT2
  clear h1_0 h1_1 h1_23 T1
  refine SX.loop_k (fun (ss : (Nat) × (List Int)) T L' => (fun (i : Nat) (S : List Int) => T 0 = .int .i64 ((n / 16 ^ i : Nat) : Int) ∧ T 28 = .int .i64 (i : Int) ∧ T 1 = T2 1 ∧ T 5 = T2 5 ∧ T 27 = T2 27 ∧ L' = some (g3, .cells (ints .u8 (List.replicate (m - i) 0 ++ S)).toArray 5 (0, 0)) :: L ∧ (i ≤ m ∧ S.length = i ∧ hexF n m = hexF (n / 16 ^ i) (m - i) ++ S)) (ss.1) (ss.2)) (fun (ss : (Nat) × (List Int)) => (fun (i : Nat) (S : List Int) => m - i) (ss.1) (ss.2)) (0, []) ?_ ?_
  · try dsimp only
    refine ⟨?_, ?_, ?_, ?_, ?_, ?_, ?_⟩
    · first | exact h2_0 | (rw [h2_0]; rfl) | (rw [h2_0]; simp; done)
    · first | exact h2_28 | (rw [h2_28]; rfl) | (rw [h2_28]; simp; done)
    · rfl
    · rfl
    · rfl
    · simp [zerosV_ints]
    · exact ⟨Nat.zero_le _, rfl, by simp⟩
  · intro ss T3 L3 hI K8 hK8
    obtain ⟨i, S⟩ := ss
    try dsimp only at hI hK8
    simp only [h2_1, h2_5, h2_27] at hI hK8
    obtain ⟨h3_0, h3_28, h3_1, h3_5, h3_27, hL3, hinv⟩ := hI
    replace hL3 := hL3.symm
    subst hL3
    clear h2_0 h2_1 h2_5 h2_27 h2_28 T2
    refine SX.seq_k fun K9 hK9 => ?_
    refine SX.region_d [some 29] rfl (fun ops hops => ?_)
    unfold Dsts at hops
    simp (maxSteps := 1000000) (dsimp := false) (disch := omega) only [go_sem, add_addS, ia_someH, wu8, wu16, w32, wu32, wu64, w64, Nat.reduceEqDiff, Nat.reduceBEq, ↓reduceIte, reduceCtorEq, Int.reduceEq, Nat.reduceLT, Nat.reduceLeDiff, Nat.reduceAdd, Nat.reduceMul, Nat.reduceSub, Int.reduceToNat, Int.reduceLT, Int.reduceLE, Int.reduceAdd, Int.reduceSub, Int.reduceMul, Int.reduceNeg, Nat.reducePow, Int.reducePow, hP, h3_0, h3_28, h3_1, h3_5, h3_27, ltT, ltF, leT, leF, eqT, eqF, hops]
    repeat' ((first | refine And.intro (by omega) ?_ | fail); try (with_reducible refine stI ?_); try simp (maxSteps := 1000000) (dsimp := false) (disch := omega) only [go_sem, add_addS, ia_someH, wu8, wu16, w32, wu32, wu64, w64, Nat.reduceEqDiff, Nat.reduceBEq, ↓reduceIte, reduceCtorEq, Int.reduceEq, Nat.reduceLT, Nat.reduceLeDiff, Nat.reduceAdd, Nat.reduceMul, Nat.reduceSub, Int.reduceToNat, Int.reduceLT, Int.reduceLE, Int.reduceAdd, Int.reduceSub, Int.reduceMul, Int.reduceNeg, Nat.reducePow, Int.reducePow, hP, h3_0, h3_28, h3_1, h3_5, h3_27, ltT, ltF, leT, leF, eqT, eqF, hops])
    refine hK9 _ _ ?_
    try clear hK9 K9
    refine SX.seq_k fun K10 hK10 => ?_
    refine SX.cond_k fun X11 Y11 hX11 hY11 => ?_
    simp (maxSteps := 1000000) (dsimp := false) (disch := omega) only [go_sem, add_addS, ia_someH, wu8, wu16, w32, wu32, wu64, w64, Nat.reduceEqDiff, Nat.reduceBEq, ↓reduceIte, reduceCtorEq, Int.reduceEq, Nat.reduceLT, Nat.reduceLeDiff, Nat.reduceAdd, Nat.reduceMul, Nat.reduceSub, Int.reduceToNat, Int.reduceLT, Int.reduceLE, Int.reduceAdd, Int.reduceSub, Int.reduceMul, Int.reduceNeg, Nat.reducePow, Int.reducePow, hP, h3_0, h3_28, h3_1, h3_5, h3_27, ltT, ltF, leT, leF, eqT, eqF, condVC]
    refine ⟨fun hc29 => hX11 ?_, fun hc29 => hY11 ?_⟩
    · clear hX11 hY11 X11 Y11
      refine SX.skip ?_
      try simp only [andThen_normal, andThen_ret, andThen_exit, inBlk_normal, inBlk_ret, inBlk_exit, Nat.reduceEqDiff, if_true, if_false, ↓reduceIte]
      refine hK10 _ _ ?_
      try clear hK10 K10
      refine SX.seq_k fun K12 hK12 => ?_
      refine SX.block ?_
      refine SX.seq_k fun K13 hK13 => ?_
      refine SX.region_d [some 30, some 6] rfl (fun ops hops => ?_)
      unfold Dsts at hops
      simp (maxSteps := 1000000) (dsimp := false) (disch := omega) only [go_sem, add_addS, ia_someH, wu8, wu16, w32, wu32, wu64, w64, Nat.reduceEqDiff, Nat.reduceBEq, ↓reduceIte, reduceCtorEq, Int.reduceEq, Nat.reduceLT, Nat.reduceLeDiff, Nat.reduceAdd, Nat.reduceMul, Nat.reduceSub, Int.reduceToNat, Int.reduceLT, Int.reduceLE, Int.reduceAdd, Int.reduceSub, Int.reduceMul, Int.reduceNeg, Nat.reducePow, Int.reducePow, hP, h3_0, h3_28, h3_1, h3_5, h3_27, ltT, ltF, leT, leF, eqT, eqF, hops]
      refine hK13 _ _ ?_
      try clear hK13 K13
      refine SX.seq_k fun K14 hK14 => ?_
      have hq : n / 16 ^ i < 4294967296 := Nat.lt_of_le_of_lt (Nat.div_le_self _ _) (by have : 16 ^ m ≤ 16 ^ 4 := Nat.pow_le_pow_right (by decide) hm; omega)
      obtain ⟨b, hb, hbd⟩ := dg_at (n / 16 ^ i)
      have hix : ((m : Int) - 1 - (i : Int)).toNat = m - 1 - i := by omega
      unfold hexDg at hb
      refine SX.region_d [some 31, some 32, some 33, some 34, some 35, some 36, some 37, some 38, some 39, none] rfl (fun ops hops => ?_)
      unfold Dsts at hops
      simp (maxSteps := 1000000) (dsimp := false) (disch := omega) only [go_sem, add_addS, ia_someH, wu8, wu16, w32, wu32, wu64, w64, Nat.reduceEqDiff, Nat.reduceBEq, ↓reduceIte, reduceCtorEq, Int.reduceEq, Nat.reduceLT, Nat.reduceLeDiff, Nat.reduceAdd, Nat.reduceMul, Nat.reduceSub, Int.reduceToNat, Int.reduceLT, Int.reduceLE, Int.reduceAdd, Int.reduceSub, Int.reduceMul, Int.reduceNeg, Nat.reducePow, Int.reducePow, hP, h3_0, h3_28, h3_1, h3_5, h3_27, ltT, ltF, leT, leF, eqT, eqF, hops, and15 _ hq, hix, hb, Option.some.injEq, exists_eq_left', hbd, ints_set]
      try with_reducible refine stI ?_
      try simp (maxSteps := 1000000) (dsimp := false) (disch := omega) only [go_sem, add_addS, ia_someH, wu8, wu16, w32, wu32, wu64, w64, Nat.reduceEqDiff, Nat.reduceBEq, ↓reduceIte, reduceCtorEq, Int.reduceEq, Nat.reduceLT, Nat.reduceLeDiff, Nat.reduceAdd, Nat.reduceMul, Nat.reduceSub, Int.reduceToNat, Int.reduceLT, Int.reduceLE, Int.reduceAdd, Int.reduceSub, Int.reduceMul, Int.reduceNeg, Nat.reducePow, Int.reducePow, hP, h3_0, h3_28, h3_1, h3_5, h3_27, ltT, ltF, leT, leF, eqT, eqF, hops, and15 _ hq, hix, hb, Option.some.injEq, exists_eq_left', hbd, ints_set]
      refine ⟨0, _, _, _, rfl, by simp [ints]; omega, .inr (Nat.zero_le _), ?_⟩
      try with_reducible refine stI ?_
      try simp (maxSteps := 1000000) (dsimp := false) (disch := omega) only [go_sem, add_addS, ia_someH, wu8, wu16, w32, wu32, wu64, w64, Nat.reduceEqDiff, Nat.reduceBEq, ↓reduceIte, reduceCtorEq, Int.reduceEq, Nat.reduceLT, Nat.reduceLeDiff, Nat.reduceAdd, Nat.reduceMul, Nat.reduceSub, Int.reduceToNat, Int.reduceLT, Int.reduceLE, Int.reduceAdd, Int.reduceSub, Int.reduceMul, Int.reduceNeg, Nat.reducePow, Int.reducePow, hP, h3_0, h3_28, h3_1, h3_5, h3_27, ltT, ltF, leT, leF, eqT, eqF, hops, and15 _ hq, hix, hb, Option.some.injEq, exists_eq_left', hbd, ints_set]
      refine hK14 _ _ ?_
      try clear hK14 K14
      refine SX.live [0, 1, 5, 27, 28] (fun T4 hT4 => ?_)
      simp only [forall_mem_cons', forall_mem_nil', go_sem, add_addS, ia_someH, wu8, wu16, w32, wu32, wu64, w64, Nat.reduceEqDiff, Nat.reduceBEq, ↓reduceIte, reduceCtorEq, Int.reduceEq, Nat.reduceLT, Nat.reduceLeDiff, Nat.reduceAdd, Nat.reduceMul, Nat.reduceSub, Int.reduceToNat, Int.reduceLT, Int.reduceLE, Int.reduceAdd, Int.reduceSub, Int.reduceMul, Int.reduceNeg, Nat.reducePow, Int.reducePow, hP, h3_0, h3_28, h3_1, h3_5, h3_27, ltT, ltF, leT, leF, eqT, eqF] at hT4
      obtain ⟨h4_0, h4_1, h4_5, h4_27, h4_28⟩ := hT4
      clear h3_0 h3_28 h3_1 h3_5 h3_27 T3
      refine SX.region_d [some 40, some 41, some 0] rfl (fun ops hops => ?_)
      unfold Dsts at hops
      simp (maxSteps := 1000000) (dsimp := false) (disch := omega) only [go_sem, add_addS, ia_someH, wu8, wu16, w32, wu32, wu64, w64, Nat.reduceEqDiff, Nat.reduceBEq, ↓reduceIte, reduceCtorEq, Int.reduceEq, Nat.reduceLT, Nat.reduceLeDiff, Nat.reduceAdd, Nat.reduceMul, Nat.reduceSub, Int.reduceToNat, Int.reduceLT, Int.reduceLE, Int.reduceAdd, Int.reduceSub, Int.reduceMul, Int.reduceNeg, Nat.reducePow, Int.reducePow, hP, h4_0, h4_1, h4_5, h4_27, h4_28, ltT, ltF, leT, leF, eqT, eqF, hops]
      repeat' ((first | refine And.intro (by omega) ?_ | fail); try (with_reducible refine stI ?_); try simp (maxSteps := 1000000) (dsimp := false) (disch := omega) only [go_sem, add_addS, ia_someH, wu8, wu16, w32, wu32, wu64, w64, Nat.reduceEqDiff, Nat.reduceBEq, ↓reduceIte, reduceCtorEq, Int.reduceEq, Nat.reduceLT, Nat.reduceLeDiff, Nat.reduceAdd, Nat.reduceMul, Nat.reduceSub, Int.reduceToNat, Int.reduceLT, Int.reduceLE, Int.reduceAdd, Int.reduceSub, Int.reduceMul, Int.reduceNeg, Nat.reducePow, Int.reducePow, hP, h4_0, h4_1, h4_5, h4_27, h4_28, ltT, ltF, leT, leF, eqT, eqF, hops])
      refine hK12 _ _ ?_
      try clear hK12 K12
      refine SX.region_d [some 42, some 28] rfl (fun ops hops => ?_)
      unfold Dsts at hops
      simp (maxSteps := 1000000) (dsimp := false) (disch := omega) only [go_sem, add_addS, ia_someH, wu8, wu16, w32, wu32, wu64, w64, Nat.reduceEqDiff, Nat.reduceBEq, ↓reduceIte, reduceCtorEq, Int.reduceEq, Nat.reduceLT, Nat.reduceLeDiff, Nat.reduceAdd, Nat.reduceMul, Nat.reduceSub, Int.reduceToNat, Int.reduceLT, Int.reduceLE, Int.reduceAdd, Int.reduceSub, Int.reduceMul, Int.reduceNeg, Nat.reducePow, Int.reducePow, hP, h4_0, h4_1, h4_5, h4_27, h4_28, ltT, ltF, leT, leF, eqT, eqF, hops]
      repeat' ((first | refine And.intro (by omega) ?_ | fail); try (with_reducible refine stI ?_); try simp (maxSteps := 1000000) (dsimp := false) (disch := omega) only [go_sem, add_addS, ia_someH, wu8, wu16, w32, wu32, wu64, w64, Nat.reduceEqDiff, Nat.reduceBEq, ↓reduceIte, reduceCtorEq, Int.reduceEq, Nat.reduceLT, Nat.reduceLeDiff, Nat.reduceAdd, Nat.reduceMul, Nat.reduceSub, Int.reduceToNat, Int.reduceLT, Int.reduceLE, Int.reduceAdd, Int.reduceSub, Int.reduceMul, Int.reduceNeg, Nat.reducePow, Int.reducePow, hP, h4_0, h4_1, h4_5, h4_27, h4_28, ltT, ltF, leT, leF, eqT, eqF, hops])
      refine hK8 (i + 1, dg (n / 16 ^ i) :: S) _ (_) _ (by first | exact Less.refl _ | exact Less.drop _ _ | exact Less.drops (Less.drop _ _) | exact Less.drops (Less.drops (Less.drop _ _)) | exact Less.drops (Less.drops (Less.drops (Less.drop _ _))) | exact Less.drops (Less.drops (Less.drops (Less.drops (Less.drop _ _))))) ?_ ?_
      · try dsimp only
        refine ⟨?_, ?_, ?_, ?_, ?_, ?_, ?_⟩
        · simp (maxSteps := 1000000) (dsimp := false) (disch := omega) only [go_sem, add_addS, ia_someH, wu8, wu16, w32, wu32, wu64, w64, Nat.reduceEqDiff, Nat.reduceBEq, ↓reduceIte, reduceCtorEq, Int.reduceEq, Nat.reduceLT, Nat.reduceLeDiff, Nat.reduceAdd, Nat.reduceMul, Nat.reduceSub, Int.reduceToNat, Int.reduceLT, Int.reduceLE, Int.reduceAdd, Int.reduceSub, Int.reduceMul, Int.reduceNeg, Nat.reducePow, Int.reducePow, hP, h4_0, h4_1, h4_5, h4_27, h4_28, ltT, ltF, leT, leF, eqT, eqF]
          rw [shr4', div16]
        · simp (maxSteps := 1000000) (dsimp := false) (disch := omega) only [go_sem, add_addS, ia_someH, wu8, wu16, w32, wu32, wu64, w64, Nat.reduceEqDiff, Nat.reduceBEq, ↓reduceIte, reduceCtorEq, Int.reduceEq, Nat.reduceLT, Nat.reduceLeDiff, Nat.reduceAdd, Nat.reduceMul, Nat.reduceSub, Int.reduceToNat, Int.reduceLT, Int.reduceLE, Int.reduceAdd, Int.reduceSub, Int.reduceMul, Int.reduceNeg, Nat.reducePow, Int.reducePow, hP, h4_0, h4_1, h4_5, h4_27, h4_28, ltT, ltF, leT, leF, eqT, eqF]
          rfl
        · simp (maxSteps := 1000000) (dsimp := false) (disch := omega) only [go_sem, add_addS, ia_someH, wu8, wu16, w32, wu32, wu64, w64, Nat.reduceEqDiff, Nat.reduceBEq, ↓reduceIte, reduceCtorEq, Int.reduceEq, Nat.reduceLT, Nat.reduceLeDiff, Nat.reduceAdd, Nat.reduceMul, Nat.reduceSub, Int.reduceToNat, Int.reduceLT, Int.reduceLE, Int.reduceAdd, Int.reduceSub, Int.reduceMul, Int.reduceNeg, Nat.reducePow, Int.reducePow, hP, h4_0, h4_1, h4_5, h4_27, h4_28, ltT, ltF, leT, leF, eqT, eqF]
        · simp (maxSteps := 1000000) (dsimp := false) (disch := omega) only [go_sem, add_addS, ia_someH, wu8, wu16, w32, wu32, wu64, w64, Nat.reduceEqDiff, Nat.reduceBEq, ↓reduceIte, reduceCtorEq, Int.reduceEq, Nat.reduceLT, Nat.reduceLeDiff, Nat.reduceAdd, Nat.reduceMul, Nat.reduceSub, Int.reduceToNat, Int.reduceLT, Int.reduceLE, Int.reduceAdd, Int.reduceSub, Int.reduceMul, Int.reduceNeg, Nat.reducePow, Int.reducePow, hP, h4_0, h4_1, h4_5, h4_27, h4_28, ltT, ltF, leT, leF, eqT, eqF]
        · simp (maxSteps := 1000000) (dsimp := false) (disch := omega) only [go_sem, add_addS, ia_someH, wu8, wu16, w32, wu32, wu64, w64, Nat.reduceEqDiff, Nat.reduceBEq, ↓reduceIte, reduceCtorEq, Int.reduceEq, Nat.reduceLT, Nat.reduceLeDiff, Nat.reduceAdd, Nat.reduceMul, Nat.reduceSub, Int.reduceToNat, Int.reduceLT, Int.reduceLE, Int.reduceAdd, Int.reduceSub, Int.reduceMul, Int.reduceNeg, Nat.reducePow, Int.reducePow, hP, h4_0, h4_1, h4_5, h4_27, h4_28, ltT, ltF, leT, leF, eqT, eqF]
        · rw [set_suf (by omega)]
        · refine ⟨by omega, by simp [hinv.2.1], ?_⟩
          rw [hinv.2.2, show m - i = (m - (i + 1)) + 1 by omega, hexF, div16, List.append_assoc]
          rfl
      · (try dsimp only); omega
    · clear hX11 hY11 X11 Y11
      refine SX.exit ?_
      try simp only [andThen_normal, andThen_ret, andThen_exit, inBlk_normal, inBlk_ret, inBlk_exit, Nat.reduceEqDiff, if_true, if_false, ↓reduceIte]
      refine hK6 _ _ ?_
      try clear hK6 K6
      refine SX.seq_k fun K15 hK15 => ?_
      obtain rfl : i = m := by omega
      have hS : hexF n i = S := by rw [hinv.2.2, Nat.sub_self]; rfl
      have hrow : SlI .u8 (Cell Γ (some (g3, .cells (ints .u8 (List.replicate (i - i) 0 ++ S)).toArray 5 (0, 0)) :: L)) (.slice (some ⟨g3, 0, none⟩) i i) (hexF n i) := SlI.own 0 (by rw [hS, Nat.sub_self]; rfl) (by rw [hexF_length]) (Nat.le_refl _)
      refine SX.region_d [some 43, some 44, some 4] rfl (fun ops hops => ?_)
      unfold Dsts at hops
      simp (maxSteps := 1000000) (dsimp := false) (disch := omega) only [go_sem, add_addS, ia_someH, wu8, wu16, w32, wu32, wu64, w64, Nat.reduceEqDiff, Nat.reduceBEq, ↓reduceIte, reduceCtorEq, Int.reduceEq, Nat.reduceLT, Nat.reduceLeDiff, Nat.reduceAdd, Nat.reduceMul, Nat.reduceSub, Int.reduceToNat, Int.reduceLT, Int.reduceLE, Int.reduceAdd, Int.reduceSub, Int.reduceMul, Int.reduceNeg, Nat.reducePow, Int.reducePow, hP, h3_0, h3_28, h3_1, h3_5, h3_27, ltT, ltF, leT, leF, eqT, eqF, hops]
      refine conv_row (hP ▸ Tryd.underlying48) (hP ▸ Tryd.underlying9) (hP ▸ Tryd.underlying5) hrow (hexF_byte _ _) ?_
      try with_reducible refine stI ?_
      try simp (maxSteps := 1000000) (dsimp := false) (disch := omega) only [go_sem, add_addS, ia_someH, wu8, wu16, w32, wu32, wu64, w64, Nat.reduceEqDiff, Nat.reduceBEq, ↓reduceIte, reduceCtorEq, Int.reduceEq, Nat.reduceLT, Nat.reduceLeDiff, Nat.reduceAdd, Nat.reduceMul, Nat.reduceSub, Int.reduceToNat, Int.reduceLT, Int.reduceLE, Int.reduceAdd, Int.reduceSub, Int.reduceMul, Int.reduceNeg, Nat.reducePow, Int.reducePow, hP, h3_0, h3_28, h3_1, h3_5, h3_27, ltT, ltF, leT, leF, eqT, eqF, hops]
      refine hK15 _ _ ?_
      try clear hK15 K15
      refine SX.ret ?_
      simp only [andThen_normal, andThen_ret, andThen_exit, inBlk_normal, inBlk_ret, inBlk_exit, Nat.reduceEqDiff, if_true, if_false, ↓reduceIte, retQ_ret]
      try simp only [res0, res1, res2, res3, stK_e, go_sem, add_addS, ia_someH, wu8, wu16, w32, wu32, wu64, w64, Nat.reduceEqDiff, Nat.reduceBEq, ↓reduceIte, reduceCtorEq, Int.reduceEq, Nat.reduceLT, Nat.reduceLeDiff, Nat.reduceAdd, Nat.reduceMul, Nat.reduceSub, Int.reduceToNat, Int.reduceLT, Int.reduceLE, Int.reduceAdd, Int.reduceSub, Int.reduceMul, Int.reduceNeg, Nat.reducePow, Int.reducePow, hP, h3_0, h3_28, h3_1, h3_5, h3_27, ltT, ltF, leT, leF, eqT, eqF]
      exact ⟨_, _, Less.drop _ _, rfl, rfl, rfl⟩

end Go.Proofs.YthhogfnghaikaaaDoor
