/- A part of the proof of OpsLinesCardSaid. -/
import Derived.Test.YthhogfnghaikaaaDoorCD5
import Derived.Laws.RangeAny
set_option linter.unusedVariables false
set_option linter.unusedSimpArgs false
namespace Go.Proofs.YthhogfnghaikaaaDoor
open Go.RowKit Go.SX

/-! bits.Number -/
def hexV (b : Nat) : Option Nat := if 48 ≤ b ∧ b ≤ 57 then some (b - 48) else if 97 ≤ b ∧ b ≤ 102 then some (b - 97 + 10) else none
def numF : List UInt8 → Nat → Option Nat
  | [], n => some n
  | b :: r, n => match hexV b.toNat with
    | some d => numF r (n * 16 + d)
    | none => none
def numS (s : ByteArray) : Option Nat := if 1 ≤ s.size ∧ s.size ≤ 8 then numF s.data.toList 0 else none
def numR (s : ByteArray) : Value := .tuple #[.int .i64 (((numS s).getD 0 : Nat) : Int), .int .i64 (if (numS s).isSome then 0 else 1)]
theorem or16 {a d : Nat} (ha : a < 4294967296) (hd : d < 16) : bits .or .i64 ((a : Int) * 16) (d : Int) = ((a * 16 + d : Nat) : Int) := by
  have := bits_join .i64 62 (by decide) (fun n h1 h2 => w64 (by omega)) 4 ((a : Int) * 16) (d : Int) (by omega) (by omega) (by omega) (by omega) (by omega) (by omega)
  rw [this]
  omega
theorem or16a {a : Nat} {x : Int} (ha : a < 4294967296) (h0 : 0 ≤ x) (hd : x < 16) : bits .or .i64 ((a : Int) * 16) x = (a : Int) * 16 + x := by
  obtain ⟨d, rfl⟩ := Int.eq_ofNat_of_zero_le h0
  rw [or16 ha (by omega)]
  omega
theorem pow24 : (2 : Int) ^ min (4 : Nat) 64 = 16 := rfl
theorem drop_byte {s : ByteArray} {pos : Nat} (h : pos < s.size) : s.data.toList.drop pos = (s[pos]'h) :: s.data.toList.drop (pos + 1) := by
  rw [List.drop_eq_getElem_cons (by rw [Array.length_toList]; exact h), Array.getElem_toList]
  rfl
set_option maxHeartbeats 1000000 in
set_option maxRecDepth 100000 in
theorem Number_spec {Γ : Ctx} (hP : Γ.P = Tryd.prog) {L : Hp} (s : ByteArray) :
    SCall Γ 20 #[(.string s)] L (fun v L' => v = numR s ∧ L' = L) := by
  refine SCall.enter (n := 48) (res2 2 3) (hP ▸ Tryd.func20) rfl rfl (by simp) (res2_ok rfl) ?_
  refine SX.seq_k fun K1 hK1 => ?_
  refine SX.region_d [some 2, some 3] rfl (fun ops hops => ?_)
  unfold Dsts at hops
  simp (maxSteps := 1000000) (dsimp := false) (disch := omega) only [go_sem, add_addS, ia_someH, wu8, wu16, w32, wu32, wu64, w64, Nat.reduceEqDiff, Nat.reduceBEq, ↓reduceIte, reduceCtorEq, Int.reduceEq, Nat.reduceLT, Nat.reduceLeDiff, Nat.reduceAdd, Nat.reduceMul, Nat.reduceSub, Int.reduceToNat, Int.reduceLT, Int.reduceLE, Int.reduceAdd, Int.reduceSub, Int.reduceMul, Int.reduceNeg, Nat.reducePow, Int.reducePow, hP, ltT, ltF, leT, leF, eqT, eqF, hops]
  refine hK1 _ _ ?_
  try clear hK1 K1
  refine SX.seq_k fun K2 hK2 => ?_
  refine SX.seq_k fun K3 hK3 => ?_
  refine SX.region_xd [some 7, some 8, some 9, some 10, some 11, some 12, some 13, some 14] rfl (fun ops hops => ?_)
  unfold Dsts at hops
  refine RX.live [0] (fun T1 hT1 => ?_)
  simp only [forall_mem_cons', forall_mem_nil', go_sem, add_addS, ia_someH, wu8, wu16, w32, wu32, wu64, w64, Nat.reduceEqDiff, Nat.reduceBEq, ↓reduceIte, reduceCtorEq, Int.reduceEq, Nat.reduceLT, Nat.reduceLeDiff, Nat.reduceAdd, Nat.reduceMul, Nat.reduceSub, Int.reduceToNat, Int.reduceLT, Int.reduceLE, Int.reduceAdd, Int.reduceSub, Int.reduceMul, Int.reduceNeg, Nat.reducePow, Int.reducePow, hP, ltT, ltF, leT, leF, eqT, eqF] at hT1
  have h1_0 := hT1; clear hT1
  refine RX.join 8 (fun (ss : Unit) T L' => T 14 = .bool (decide (¬ (1 ≤ s.size ∧ s.size ≤ 8))) ∧ T 0 = T1 0 ∧ L' = L ∧ (True)) (fun K4 hK4 => ?_) ?_
  · simp only [h1_0] at hK4
    simp (maxSteps := 1000000) (dsimp := false) (disch := omega) only [go_sem, add_addS, ia_someH, wu8, wu16, w32, wu32, wu64, w64, Nat.reduceEqDiff, Nat.reduceBEq, ↓reduceIte, reduceCtorEq, Int.reduceEq, Nat.reduceLT, Nat.reduceLeDiff, Nat.reduceAdd, Nat.reduceMul, Nat.reduceSub, Int.reduceToNat, Int.reduceLT, Int.reduceLE, Int.reduceAdd, Int.reduceSub, Int.reduceMul, Int.reduceNeg, Nat.reducePow, Int.reducePow, hP, h1_0, ltT, ltF, leT, leF, eqT, eqF, hops]
    repeat' (first | refine iteB (fun hg => ?_) (fun hg => ?_) | refine iteI (fun hg => ?_) (fun hg => ?_) | ((first | refine And.intro (by omega) ?_ | fail); try (with_reducible refine stI ?_); try simp (maxSteps := 1000000) (dsimp := false) (disch := omega) only [go_sem, add_addS, ia_someH, wu8, wu16, w32, wu32, wu64, w64, Nat.reduceEqDiff, Nat.reduceBEq, ↓reduceIte, reduceCtorEq, Int.reduceEq, Nat.reduceLT, Nat.reduceLeDiff, Nat.reduceAdd, Nat.reduceMul, Nat.reduceSub, Int.reduceToNat, Int.reduceLT, Int.reduceLE, Int.reduceAdd, Int.reduceSub, Int.reduceMul, Int.reduceNeg, Nat.reducePow, Int.reducePow, hP, h1_0, ltT, ltF, leT, leF, eqT, eqF, hops]) | fail)
    all_goals
      refine hK4 () _ (L) _ (by first | exact Less.refl _ | exact Less.drop _ _ | exact Less.drops (Less.drop _ _) | exact Less.drops (Less.drops (Less.drop _ _)) | exact Less.drops (Less.drops (Less.drops (Less.drop _ _))) | exact Less.drops (Less.drops (Less.drops (Less.drops (Less.drop _ _))))) ?_
      try dsimp only
      refine ⟨?_, ?_, ?_, ?_⟩
      · simp (maxSteps := 1000000) (dsimp := false) (disch := omega) only [go_sem, add_addS, ia_someH, wu8, wu16, w32, wu32, wu64, w64, Nat.reduceEqDiff, Nat.reduceBEq, ↓reduceIte, reduceCtorEq, Int.reduceEq, Nat.reduceLT, Nat.reduceLeDiff, Nat.reduceAdd, Nat.reduceMul, Nat.reduceSub, Int.reduceToNat, Int.reduceLT, Int.reduceLE, Int.reduceAdd, Int.reduceSub, Int.reduceMul, Int.reduceNeg, Nat.reducePow, Int.reducePow, hP, h1_0, ltT, ltF, leT, leF, eqT, eqF]
        first | done | exact congrArg _ (decide_eq_decide.2 (by omega)) | exact congrArg _ (decide_eq_true (by omega)).symm | exact congrArg _ (decide_eq_false (by omega)).symm
      · simp (maxSteps := 1000000) (dsimp := false) (disch := omega) only [go_sem, add_addS, ia_someH, wu8, wu16, w32, wu32, wu64, w64, Nat.reduceEqDiff, Nat.reduceBEq, ↓reduceIte, reduceCtorEq, Int.reduceEq, Nat.reduceLT, Nat.reduceLeDiff, Nat.reduceAdd, Nat.reduceMul, Nat.reduceSub, Int.reduceToNat, Int.reduceLT, Int.reduceLE, Int.reduceAdd, Int.reduceSub, Int.reduceMul, Int.reduceNeg, Nat.reducePow, Int.reducePow, hP, h1_0, ltT, ltF, leT, leF, eqT, eqF]
      · rfl
      · trivial
  · intro ss T2 L2 hI
    simp only [h1_0] at hI 
    obtain ⟨h2_14, h2_0, hL2, hinv⟩ := hI
    replace hL2 := hL2.symm
    subst hL2
    clear h1_0 T1
    refine RX.done ?_
    simp (maxSteps := 1000000) (dsimp := false) (disch := omega) only [go_sem, add_addS, ia_someH, wu8, wu16, w32, wu32, wu64, w64, Nat.reduceEqDiff, Nat.reduceBEq, ↓reduceIte, reduceCtorEq, Int.reduceEq, Nat.reduceLT, Nat.reduceLeDiff, Nat.reduceAdd, Nat.reduceMul, Nat.reduceSub, Int.reduceToNat, Int.reduceLT, Int.reduceLE, Int.reduceAdd, Int.reduceSub, Int.reduceMul, Int.reduceNeg, Nat.reducePow, Int.reducePow, hP, h2_14, h2_0, ltT, ltF, leT, leF, eqT, eqF, hops]
    refine hK3 _ _ ?_
    try clear hK3 K3
    refine SX.cond_k fun X5 Y5 hX5 hY5 => ?_
    simp (maxSteps := 1000000) (dsimp := false) (disch := omega) only [go_sem, add_addS, ia_someH, wu8, wu16, w32, wu32, wu64, w64, Nat.reduceEqDiff, Nat.reduceBEq, ↓reduceIte, reduceCtorEq, Int.reduceEq, Nat.reduceLT, Nat.reduceLeDiff, Nat.reduceAdd, Nat.reduceMul, Nat.reduceSub, Int.reduceToNat, Int.reduceLT, Int.reduceLE, Int.reduceAdd, Int.reduceSub, Int.reduceMul, Int.reduceNeg, Nat.reducePow, Int.reducePow, hP, h2_14, h2_0, ltT, ltF, leT, leF, eqT, eqF, condVC]
    refine ⟨fun hc14 => hX5 ?_, fun hc14 => hY5 ?_⟩
    · clear hX5 hY5 X5 Y5
      refine SX.seq_k fun K6 hK6 => ?_
      refine SX.region_d [some 2, some 3] rfl (fun ops hops => ?_)
      unfold Dsts at hops
      simp (maxSteps := 1000000) (dsimp := false) (disch := omega) only [go_sem, add_addS, ia_someH, wu8, wu16, w32, wu32, wu64, w64, Nat.reduceEqDiff, Nat.reduceBEq, ↓reduceIte, reduceCtorEq, Int.reduceEq, Nat.reduceLT, Nat.reduceLeDiff, Nat.reduceAdd, Nat.reduceMul, Nat.reduceSub, Int.reduceToNat, Int.reduceLT, Int.reduceLE, Int.reduceAdd, Int.reduceSub, Int.reduceMul, Int.reduceNeg, Nat.reducePow, Int.reducePow, hP, h2_14, h2_0, ltT, ltF, leT, leF, eqT, eqF, hops]
      refine hK6 _ _ ?_
      try clear hK6 K6
      refine SX.ret ?_
      simp only [andThen_normal, andThen_ret, andThen_exit, inBlk_normal, inBlk_ret, inBlk_exit, Nat.reduceEqDiff, if_true, if_false, ↓reduceIte, retQ_ret]
      try simp only [res0, res1, res2, res3, stK_e, go_sem, add_addS, ia_someH, wu8, wu16, w32, wu32, wu64, w64, Nat.reduceEqDiff, Nat.reduceBEq, ↓reduceIte, reduceCtorEq, Int.reduceEq, Nat.reduceLT, Nat.reduceLeDiff, Nat.reduceAdd, Nat.reduceMul, Nat.reduceSub, Int.reduceToNat, Int.reduceLT, Int.reduceLE, Int.reduceAdd, Int.reduceSub, Int.reduceMul, Int.reduceNeg, Nat.reducePow, Int.reducePow, hP, h2_14, h2_0, ltT, ltF, leT, leF, eqT, eqF]
      have hn : numS s = none := if_neg (hc14)
      exact ⟨_, L, (by first | exact Less.refl _ | exact Less.drop _ _ | exact Less.drops (Less.drop _ _) | exact Less.drops (Less.drops (Less.drop _ _)) | exact Less.drops (Less.drops (Less.drops (Less.drop _ _))) | exact Less.drops (Less.drops (Less.drops (Less.drops (Less.drop _ _))))), rfl, by unfold numR; rw [hn]; exact ⟨rfl, rfl⟩⟩
    · clear hX5 hY5 X5 Y5
      refine SX.skip ?_
      try simp only [andThen_normal, andThen_ret, andThen_exit, inBlk_normal, inBlk_ret, inBlk_exit, Nat.reduceEqDiff, if_true, if_false, ↓reduceIte]
      refine hK2 _ _ ?_
      try clear hK2 K2
      refine SX.seq_k fun K7 hK7 => ?_
      refine SX.region_d [some 4] rfl (fun ops hops => ?_)
      unfold Dsts at hops
      simp (maxSteps := 1000000) (dsimp := false) (disch := omega) only [go_sem, add_addS, ia_someH, wu8, wu16, w32, wu32, wu64, w64, Nat.reduceEqDiff, Nat.reduceBEq, ↓reduceIte, reduceCtorEq, Int.reduceEq, Nat.reduceLT, Nat.reduceLeDiff, Nat.reduceAdd, Nat.reduceMul, Nat.reduceSub, Int.reduceToNat, Int.reduceLT, Int.reduceLE, Int.reduceAdd, Int.reduceSub, Int.reduceMul, Int.reduceNeg, Nat.reducePow, Int.reducePow, hP, h2_14, h2_0, ltT, ltF, leT, leF, eqT, eqF, hops]
      refine hK7 _ _ ?_
      try clear hK7 K7
      refine SX.seq_k fun K8 hK8 => ?_
      refine SX.seq_k fun K9 hK9 => ?_
      refine SX.region_d [some 15, some 16] rfl (fun ops hops => ?_)
      unfold Dsts at hops
      simp (maxSteps := 1000000) (dsimp := false) (disch := omega) only [go_sem, add_addS, ia_someH, wu8, wu16, w32, wu32, wu64, w64, Nat.reduceEqDiff, Nat.reduceBEq, ↓reduceIte, reduceCtorEq, Int.reduceEq, Nat.reduceLT, Nat.reduceLeDiff, Nat.reduceAdd, Nat.reduceMul, Nat.reduceSub, Int.reduceToNat, Int.reduceLT, Int.reduceLE, Int.reduceAdd, Int.reduceSub, Int.reduceMul, Int.reduceNeg, Nat.reducePow, Int.reducePow, hP, h2_14, h2_0, ltT, ltF, leT, leF, eqT, eqF, hops]
      repeat' ((first | intro g4 | fail); try (with_reducible refine stI ?_); try simp (maxSteps := 1000000) (dsimp := false) (disch := omega) only [go_sem, add_addS, ia_someH, wu8, wu16, w32, wu32, wu64, w64, Nat.reduceEqDiff, Nat.reduceBEq, ↓reduceIte, reduceCtorEq, Int.reduceEq, Nat.reduceLT, Nat.reduceLeDiff, Nat.reduceAdd, Nat.reduceMul, Nat.reduceSub, Int.reduceToNat, Int.reduceLT, Int.reduceLE, Int.reduceAdd, Int.reduceSub, Int.reduceMul, Int.reduceNeg, Nat.reducePow, Int.reducePow, hP, h2_14, h2_0, ltT, ltF, leT, leF, eqT, eqF, hops])
      refine hK9 _ _ ?_
      try clear hK9 K9
      refine SX.block ?_
      have hs8 : 1 ≤ s.size ∧ s.size ≤ 8 := by first | exact hc14 | exact Decidable.not_not.1 hc14 | omega
      refine SX.live [4, 16] (fun T3 hT3 => ?_)
      simp only [forall_mem_cons', forall_mem_nil', go_sem, add_addS, ia_someH, wu8, wu16, w32, wu32, wu64, w64, Nat.reduceEqDiff, Nat.reduceBEq, ↓reduceIte, reduceCtorEq, Int.reduceEq, Nat.reduceLT, Nat.reduceLeDiff, Nat.reduceAdd, Nat.reduceMul, Nat.reduceSub, Int.reduceToNat, Int.reduceLT, Int.reduceLE, Int.reduceAdd, Int.reduceSub, Int.reduceMul, Int.reduceNeg, Nat.reducePow, Int.reducePow, hP, h2_14, h2_0, ltT, ltF, leT, leF, eqT, eqF] at hT3
      obtain ⟨h3_4, h3_16⟩ := hT3
      clear h2_14 h2_0 T2
      refine SX.loop_k (fun (ss : (Nat) × (Nat)) T L' => (fun (pos : Nat) (n : Nat) => T 4 = .int .i64 (n : Int) ∧ T 16 = T3 16 ∧ L' = some (g4, .stringIter s pos) :: L ∧ (pos ≤ s.size ∧ n < 16 ^ pos ∧ numF s.data.toList 0 = numF (s.data.toList.drop pos) n)) (ss.1) (ss.2)) (fun (ss : (Nat) × (Nat)) => (fun (pos : Nat) (n : Nat) => s.size - pos) (ss.1) (ss.2)) (0, 0) ?_ ?_
      · try dsimp only
        refine ⟨?_, ?_, ?_, ?_⟩
        · first | exact h3_4 | (rw [h3_4]; rfl) | (rw [h3_4]; simp; done)
        · rfl
        · rfl
        · exact ⟨Nat.zero_le _, by decide, rfl⟩
      · intro ss T4 L4 hI K10 hK10
        obtain ⟨pos, n⟩ := ss
        try dsimp only at hI hK10
        simp only [h3_16] at hI hK10
        obtain ⟨h4_4, h4_16, hL4, ⟨hp, hn, he⟩⟩ := hI
        replace hL4 := hL4.symm
        subst hL4
        clear h3_4 h3_16 T3
        refine SX.seq_k fun K11 hK11 => ?_
        refine SX.region_d [some 17, some 18] rfl (fun ops hops => ?_)
        unfold Dsts at hops
        simp (maxSteps := 1000000) (dsimp := false) (disch := omega) only [go_sem, add_addS, ia_someH, wu8, wu16, w32, wu32, wu64, w64, Nat.reduceEqDiff, Nat.reduceBEq, ↓reduceIte, reduceCtorEq, Int.reduceEq, Nat.reduceLT, Nat.reduceLeDiff, Nat.reduceAdd, Nat.reduceMul, Nat.reduceSub, Int.reduceToNat, Int.reduceLT, Int.reduceLE, Int.reduceAdd, Int.reduceSub, Int.reduceMul, Int.reduceNeg, Nat.reducePow, Int.reducePow, hP, h4_4, h4_16, ltT, ltF, leT, leF, eqT, eqF, hops]
        refine ⟨0, _, _, rfl, ?_⟩
        try with_reducible refine stI ?_
        try simp (maxSteps := 1000000) (dsimp := false) (disch := omega) only [go_sem, add_addS, ia_someH, wu8, wu16, w32, wu32, wu64, w64, Nat.reduceEqDiff, Nat.reduceBEq, ↓reduceIte, reduceCtorEq, Int.reduceEq, Nat.reduceLT, Nat.reduceLeDiff, Nat.reduceAdd, Nat.reduceMul, Nat.reduceSub, Int.reduceToNat, Int.reduceLT, Int.reduceLE, Int.reduceAdd, Int.reduceSub, Int.reduceMul, Int.reduceNeg, Nat.reducePow, Int.reducePow, hP, h4_4, h4_16, ltT, ltF, leT, leF, eqT, eqF, hops]
        refine iteI (fun hg => ?_) (fun hg => ?_)
        rcases (by omega : (48 ≤ (s[pos]'hg).toNat ∧ (s[pos]'hg).toNat ≤ 57) ∨ (97 ≤ (s[pos]'hg).toNat ∧ (s[pos]'hg).toNat ≤ 102) ∨ (s[pos]'hg).toNat < 48 ∨ (57 < (s[pos]'hg).toNat ∧ (s[pos]'hg).toNat < 97) ∨ (102 < (s[pos]'hg).toNat ∧ (s[pos]'hg).toNat < 128) ∨ 128 ≤ (s[pos]'hg).toNat) with ha | ha | ha | ha | ha | ha
        · skip
          try with_reducible refine stI ?_
          rw [decode_ascii s pos hg (by omega)]
          try with_reducible refine stI ?_
          try simp (maxSteps := 1000000) (dsimp := false) (disch := omega) only [go_sem, add_addS, ia_someH, wu8, wu16, w32, wu32, wu64, w64, Nat.reduceEqDiff, Nat.reduceBEq, ↓reduceIte, reduceCtorEq, Int.reduceEq, Nat.reduceLT, Nat.reduceLeDiff, Nat.reduceAdd, Nat.reduceMul, Nat.reduceSub, Int.reduceToNat, Int.reduceLT, Int.reduceLE, Int.reduceAdd, Int.reduceSub, Int.reduceMul, Int.reduceNeg, Nat.reducePow, Int.reducePow, hP, h4_4, h4_16, ltT, ltF, leT, leF, eqT, eqF, hops]
          have hn4 : n < 4294967296 := Nat.lt_of_lt_of_le hn (Nat.le_trans (Nat.pow_le_pow_right (by decide) (show pos ≤ 7 by omega)) (by decide))
          refine hK11 _ _ ?_
          try clear hK11 K11
          refine SX.seq_k fun K12 hK12 => ?_
          refine SX.cond_k fun X13 Y13 hX13 hY13 => ?_
          simp (maxSteps := 1000000) (dsimp := false) (disch := omega) only [go_sem, add_addS, ia_someH, wu8, wu16, w32, wu32, wu64, w64, Nat.reduceEqDiff, Nat.reduceBEq, ↓reduceIte, reduceCtorEq, Int.reduceEq, Nat.reduceLT, Nat.reduceLeDiff, Nat.reduceAdd, Nat.reduceMul, Nat.reduceSub, Int.reduceToNat, Int.reduceLT, Int.reduceLE, Int.reduceAdd, Int.reduceSub, Int.reduceMul, Int.reduceNeg, Nat.reducePow, Int.reducePow, hP, h4_4, h4_16, ltT, ltF, leT, leF, eqT, eqF, condVC]
          refine hX13 ?_
          clear hX13 hY13 X13 Y13
          refine SX.skip ?_
          try simp only [andThen_normal, andThen_ret, andThen_exit, inBlk_normal, inBlk_ret, inBlk_exit, Nat.reduceEqDiff, if_true, if_false, ↓reduceIte]
          refine hK12 _ _ ?_
          try clear hK12 K12
          refine SX.block ?_
          refine SX.seq_k fun K14 hK14 => ?_
          refine SX.region_d [some 19, some 6] rfl (fun ops hops => ?_)
          unfold Dsts at hops
          simp (maxSteps := 1000000) (dsimp := false) (disch := omega) only [go_sem, add_addS, ia_someH, wu8, wu16, w32, wu32, wu64, w64, Nat.reduceEqDiff, Nat.reduceBEq, ↓reduceIte, reduceCtorEq, Int.reduceEq, Nat.reduceLT, Nat.reduceLeDiff, Nat.reduceAdd, Nat.reduceMul, Nat.reduceSub, Int.reduceToNat, Int.reduceLT, Int.reduceLE, Int.reduceAdd, Int.reduceSub, Int.reduceMul, Int.reduceNeg, Nat.reducePow, Int.reducePow, hP, h4_4, h4_16, ltT, ltF, leT, leF, eqT, eqF, hops]
          refine hK14 _ _ ?_
          try clear hK14 K14
          refine SX.block ?_
          refine SX.seq_k fun K15 hK15 => ?_
          refine SX.region_d [some 21, some 22, some 23, some 24, some 25, some 26, some 20] rfl (fun ops hops => ?_)
          unfold Dsts at hops
          simp (maxSteps := 1000000) (dsimp := false) (disch := omega) only [go_sem, add_addS, ia_someH, wu8, wu16, w32, wu32, wu64, w64, Nat.reduceEqDiff, Nat.reduceBEq, ↓reduceIte, reduceCtorEq, Int.reduceEq, Nat.reduceLT, Nat.reduceLeDiff, Nat.reduceAdd, Nat.reduceMul, Nat.reduceSub, Int.reduceToNat, Int.reduceLT, Int.reduceLE, Int.reduceAdd, Int.reduceSub, Int.reduceMul, Int.reduceNeg, Nat.reducePow, Int.reducePow, hP, h4_4, h4_16, ltT, ltF, leT, leF, eqT, eqF, hops]
          repeat' ((first | refine And.intro (by omega) ?_ | fail); try (with_reducible refine stI ?_); try simp (maxSteps := 1000000) (dsimp := false) (disch := omega) only [go_sem, add_addS, ia_someH, wu8, wu16, w32, wu32, wu64, w64, Nat.reduceEqDiff, Nat.reduceBEq, ↓reduceIte, reduceCtorEq, Int.reduceEq, Nat.reduceLT, Nat.reduceLeDiff, Nat.reduceAdd, Nat.reduceMul, Nat.reduceSub, Int.reduceToNat, Int.reduceLT, Int.reduceLE, Int.reduceAdd, Int.reduceSub, Int.reduceMul, Int.reduceNeg, Nat.reducePow, Int.reducePow, hP, h4_4, h4_16, ltT, ltF, leT, leF, eqT, eqF, hops])
          refine hK15 _ _ ?_
          try clear hK15 K15
          refine SX.live [4, 6, 16, 20] (fun T5 hT5 => ?_)
          simp only [forall_mem_cons', forall_mem_nil', go_sem, add_addS, ia_someH, wu8, wu16, w32, wu32, wu64, w64, Nat.reduceEqDiff, Nat.reduceBEq, ↓reduceIte, reduceCtorEq, Int.reduceEq, Nat.reduceLT, Nat.reduceLeDiff, Nat.reduceAdd, Nat.reduceMul, Nat.reduceSub, Int.reduceToNat, Int.reduceLT, Int.reduceLE, Int.reduceAdd, Int.reduceSub, Int.reduceMul, Int.reduceNeg, Nat.reducePow, Int.reducePow, hP, h4_4, h4_16, ltT, ltF, leT, leF, eqT, eqF] at hT5
          obtain ⟨h5_4, h5_6, h5_16, h5_20⟩ := hT5
          clear h4_4 h4_16 T4
          refine SX.cond_k fun X16 Y16 hX16 hY16 => ?_
          simp (maxSteps := 1000000) (dsimp := false) (disch := omega) only [go_sem, add_addS, ia_someH, wu8, wu16, w32, wu32, wu64, w64, Nat.reduceEqDiff, Nat.reduceBEq, ↓reduceIte, reduceCtorEq, Int.reduceEq, Nat.reduceLT, Nat.reduceLeDiff, Nat.reduceAdd, Nat.reduceMul, Nat.reduceSub, Int.reduceToNat, Int.reduceLT, Int.reduceLE, Int.reduceAdd, Int.reduceSub, Int.reduceMul, Int.reduceNeg, Nat.reducePow, Int.reducePow, hP, h5_4, h5_6, h5_16, h5_20, ltT, ltF, leT, leF, eqT, eqF, condVC]
          refine hX16 ?_
          clear hX16 hY16 X16 Y16
          refine SX.region_d [some 27, some 28, some 29, some 30, some 31, some 32, some 4] rfl (fun ops hops => ?_)
          unfold Dsts at hops
          simp (maxSteps := 1000000) (dsimp := false) (disch := omega) only [go_sem, add_addS, ia_someH, wu8, wu16, w32, wu32, wu64, w64, Nat.reduceEqDiff, Nat.reduceBEq, ↓reduceIte, reduceCtorEq, Int.reduceEq, Nat.reduceLT, Nat.reduceLeDiff, Nat.reduceAdd, Nat.reduceMul, Nat.reduceSub, Int.reduceToNat, Int.reduceLT, Int.reduceLE, Int.reduceAdd, Int.reduceSub, Int.reduceMul, Int.reduceNeg, Nat.reducePow, Int.reducePow, hP, h5_4, h5_6, h5_16, h5_20, ltT, ltF, leT, leF, eqT, eqF, hops]
          repeat' ((first | refine And.intro (by omega) ?_ | fail); try (with_reducible refine stI ?_); try simp (maxSteps := 1000000) (dsimp := false) (disch := omega) only [go_sem, add_addS, ia_someH, wu8, wu16, w32, wu32, wu64, w64, Nat.reduceEqDiff, Nat.reduceBEq, ↓reduceIte, reduceCtorEq, Int.reduceEq, Nat.reduceLT, Nat.reduceLeDiff, Nat.reduceAdd, Nat.reduceMul, Nat.reduceSub, Int.reduceToNat, Int.reduceLT, Int.reduceLE, Int.reduceAdd, Int.reduceSub, Int.reduceMul, Int.reduceNeg, Nat.reducePow, Int.reducePow, hP, h5_4, h5_6, h5_16, h5_20, ltT, ltF, leT, leF, eqT, eqF, hops])
          refine hK10 (pos + 1, n * 16 + ((s[pos]'hg).toNat - 48)) _ (some (g4, .stringIter s (pos + 1)) :: L) _ (by first | exact Less.refl _ | exact Less.drop _ _ | exact Less.drops (Less.drop _ _) | exact Less.drops (Less.drops (Less.drop _ _)) | exact Less.drops (Less.drops (Less.drops (Less.drop _ _))) | exact Less.drops (Less.drops (Less.drops (Less.drops (Less.drop _ _))))) ?_ ?_
          · try dsimp only
            refine ⟨?_, ?_, ?_, ?_⟩
            · simp (maxSteps := 1000000) (dsimp := false) (disch := omega) only [go_sem, add_addS, ia_someH, wu8, wu16, w32, wu32, wu64, w64, Nat.reduceEqDiff, Nat.reduceBEq, ↓reduceIte, reduceCtorEq, Int.reduceEq, Nat.reduceLT, Nat.reduceLeDiff, Nat.reduceAdd, Nat.reduceMul, Nat.reduceSub, Int.reduceToNat, Int.reduceLT, Int.reduceLE, Int.reduceAdd, Int.reduceSub, Int.reduceMul, Int.reduceNeg, Nat.reducePow, Int.reducePow, hP, h5_4, h5_6, h5_16, h5_20, ltT, ltF, leT, leF, eqT, eqF]
              rw [pow24, w64 (by omega), or16a hn4 (by omega) (by omega)]; congr 1; omega
            · simp (maxSteps := 1000000) (dsimp := false) (disch := omega) only [go_sem, add_addS, ia_someH, wu8, wu16, w32, wu32, wu64, w64, Nat.reduceEqDiff, Nat.reduceBEq, ↓reduceIte, reduceCtorEq, Int.reduceEq, Nat.reduceLT, Nat.reduceLeDiff, Nat.reduceAdd, Nat.reduceMul, Nat.reduceSub, Int.reduceToNat, Int.reduceLT, Int.reduceLE, Int.reduceAdd, Int.reduceSub, Int.reduceMul, Int.reduceNeg, Nat.reducePow, Int.reducePow, hP, h5_4, h5_6, h5_16, h5_20, ltT, ltF, leT, leF, eqT, eqF]
            · rfl
            · refine ⟨by omega, by rw [Nat.pow_succ]; omega, ?_⟩
              rw [he, drop_byte hg, numF, show hexV (s[pos]'hg).toNat = some ((s[pos]'hg).toNat - 48) from if_pos (by omega)]
          · (try dsimp only); omega
        · skip
          try with_reducible refine stI ?_
          rw [decode_ascii s pos hg (by omega)]
          try with_reducible refine stI ?_
          try simp (maxSteps := 1000000) (dsimp := false) (disch := omega) only [go_sem, add_addS, ia_someH, wu8, wu16, w32, wu32, wu64, w64, Nat.reduceEqDiff, Nat.reduceBEq, ↓reduceIte, reduceCtorEq, Int.reduceEq, Nat.reduceLT, Nat.reduceLeDiff, Nat.reduceAdd, Nat.reduceMul, Nat.reduceSub, Int.reduceToNat, Int.reduceLT, Int.reduceLE, Int.reduceAdd, Int.reduceSub, Int.reduceMul, Int.reduceNeg, Nat.reducePow, Int.reducePow, hP, h4_4, h4_16, ltT, ltF, leT, leF, eqT, eqF, hops]
          have hn4 : n < 4294967296 := Nat.lt_of_lt_of_le hn (Nat.le_trans (Nat.pow_le_pow_right (by decide) (show pos ≤ 7 by omega)) (by decide))
          refine hK11 _ _ ?_
          try clear hK11 K11
          refine SX.seq_k fun K17 hK17 => ?_
          refine SX.cond_k fun X18 Y18 hX18 hY18 => ?_
          simp (maxSteps := 1000000) (dsimp := false) (disch := omega) only [go_sem, add_addS, ia_someH, wu8, wu16, w32, wu32, wu64, w64, Nat.reduceEqDiff, Nat.reduceBEq, ↓reduceIte, reduceCtorEq, Int.reduceEq, Nat.reduceLT, Nat.reduceLeDiff, Nat.reduceAdd, Nat.reduceMul, Nat.reduceSub, Int.reduceToNat, Int.reduceLT, Int.reduceLE, Int.reduceAdd, Int.reduceSub, Int.reduceMul, Int.reduceNeg, Nat.reducePow, Int.reducePow, hP, h4_4, h4_16, ltT, ltF, leT, leF, eqT, eqF, condVC]
          refine hX18 ?_
          clear hX18 hY18 X18 Y18
          refine SX.skip ?_
          try simp only [andThen_normal, andThen_ret, andThen_exit, inBlk_normal, inBlk_ret, inBlk_exit, Nat.reduceEqDiff, if_true, if_false, ↓reduceIte]
          refine hK17 _ _ ?_
          try clear hK17 K17
          refine SX.block ?_
          refine SX.seq_k fun K19 hK19 => ?_
          refine SX.region_d [some 19, some 6] rfl (fun ops hops => ?_)
          unfold Dsts at hops
          simp (maxSteps := 1000000) (dsimp := false) (disch := omega) only [go_sem, add_addS, ia_someH, wu8, wu16, w32, wu32, wu64, w64, Nat.reduceEqDiff, Nat.reduceBEq, ↓reduceIte, reduceCtorEq, Int.reduceEq, Nat.reduceLT, Nat.reduceLeDiff, Nat.reduceAdd, Nat.reduceMul, Nat.reduceSub, Int.reduceToNat, Int.reduceLT, Int.reduceLE, Int.reduceAdd, Int.reduceSub, Int.reduceMul, Int.reduceNeg, Nat.reducePow, Int.reducePow, hP, h4_4, h4_16, ltT, ltF, leT, leF, eqT, eqF, hops]
          refine hK19 _ _ ?_
          try clear hK19 K19
          refine SX.block ?_
          refine SX.seq_k fun K20 hK20 => ?_
          refine SX.region_d [some 21, some 22, some 23, some 24, some 25, some 26, some 20] rfl (fun ops hops => ?_)
          unfold Dsts at hops
          simp (maxSteps := 1000000) (dsimp := false) (disch := omega) only [go_sem, add_addS, ia_someH, wu8, wu16, w32, wu32, wu64, w64, Nat.reduceEqDiff, Nat.reduceBEq, ↓reduceIte, reduceCtorEq, Int.reduceEq, Nat.reduceLT, Nat.reduceLeDiff, Nat.reduceAdd, Nat.reduceMul, Nat.reduceSub, Int.reduceToNat, Int.reduceLT, Int.reduceLE, Int.reduceAdd, Int.reduceSub, Int.reduceMul, Int.reduceNeg, Nat.reducePow, Int.reducePow, hP, h4_4, h4_16, ltT, ltF, leT, leF, eqT, eqF, hops]
          repeat' ((first | refine And.intro (by omega) ?_ | fail); try (with_reducible refine stI ?_); try simp (maxSteps := 1000000) (dsimp := false) (disch := omega) only [go_sem, add_addS, ia_someH, wu8, wu16, w32, wu32, wu64, w64, Nat.reduceEqDiff, Nat.reduceBEq, ↓reduceIte, reduceCtorEq, Int.reduceEq, Nat.reduceLT, Nat.reduceLeDiff, Nat.reduceAdd, Nat.reduceMul, Nat.reduceSub, Int.reduceToNat, Int.reduceLT, Int.reduceLE, Int.reduceAdd, Int.reduceSub, Int.reduceMul, Int.reduceNeg, Nat.reducePow, Int.reducePow, hP, h4_4, h4_16, ltT, ltF, leT, leF, eqT, eqF, hops])
          refine hK20 _ _ ?_
          try clear hK20 K20
          refine SX.live [4, 6, 16, 20] (fun T6 hT6 => ?_)
          simp only [forall_mem_cons', forall_mem_nil', go_sem, add_addS, ia_someH, wu8, wu16, w32, wu32, wu64, w64, Nat.reduceEqDiff, Nat.reduceBEq, ↓reduceIte, reduceCtorEq, Int.reduceEq, Nat.reduceLT, Nat.reduceLeDiff, Nat.reduceAdd, Nat.reduceMul, Nat.reduceSub, Int.reduceToNat, Int.reduceLT, Int.reduceLE, Int.reduceAdd, Int.reduceSub, Int.reduceMul, Int.reduceNeg, Nat.reducePow, Int.reducePow, hP, h4_4, h4_16, ltT, ltF, leT, leF, eqT, eqF] at hT6
          obtain ⟨h6_4, h6_6, h6_16, h6_20⟩ := hT6
          clear h4_4 h4_16 T4
          refine SX.cond_k fun X21 Y21 hX21 hY21 => ?_
          simp (maxSteps := 1000000) (dsimp := false) (disch := omega) only [go_sem, add_addS, ia_someH, wu8, wu16, w32, wu32, wu64, w64, Nat.reduceEqDiff, Nat.reduceBEq, ↓reduceIte, reduceCtorEq, Int.reduceEq, Nat.reduceLT, Nat.reduceLeDiff, Nat.reduceAdd, Nat.reduceMul, Nat.reduceSub, Int.reduceToNat, Int.reduceLT, Int.reduceLE, Int.reduceAdd, Int.reduceSub, Int.reduceMul, Int.reduceNeg, Nat.reducePow, Int.reducePow, hP, h6_4, h6_6, h6_16, h6_20, ltT, ltF, leT, leF, eqT, eqF, condVC]
          refine hY21 ?_
          clear hX21 hY21 X21 Y21
          refine SX.seq_k fun K22 hK22 => ?_
          refine SX.region_d [some 34, some 35, some 36, some 37, some 38, some 39, some 33] rfl (fun ops hops => ?_)
          unfold Dsts at hops
          simp (maxSteps := 1000000) (dsimp := false) (disch := omega) only [go_sem, add_addS, ia_someH, wu8, wu16, w32, wu32, wu64, w64, Nat.reduceEqDiff, Nat.reduceBEq, ↓reduceIte, reduceCtorEq, Int.reduceEq, Nat.reduceLT, Nat.reduceLeDiff, Nat.reduceAdd, Nat.reduceMul, Nat.reduceSub, Int.reduceToNat, Int.reduceLT, Int.reduceLE, Int.reduceAdd, Int.reduceSub, Int.reduceMul, Int.reduceNeg, Nat.reducePow, Int.reducePow, hP, h6_4, h6_6, h6_16, h6_20, ltT, ltF, leT, leF, eqT, eqF, hops]
          repeat' ((first | refine And.intro (by omega) ?_ | fail); try (with_reducible refine stI ?_); try simp (maxSteps := 1000000) (dsimp := false) (disch := omega) only [go_sem, add_addS, ia_someH, wu8, wu16, w32, wu32, wu64, w64, Nat.reduceEqDiff, Nat.reduceBEq, ↓reduceIte, reduceCtorEq, Int.reduceEq, Nat.reduceLT, Nat.reduceLeDiff, Nat.reduceAdd, Nat.reduceMul, Nat.reduceSub, Int.reduceToNat, Int.reduceLT, Int.reduceLE, Int.reduceAdd, Int.reduceSub, Int.reduceMul, Int.reduceNeg, Nat.reducePow, Int.reducePow, hP, h6_4, h6_6, h6_16, h6_20, ltT, ltF, leT, leF, eqT, eqF, hops])
          refine hK22 _ _ ?_
          try clear hK22 K22
          refine SX.cond_k fun X23 Y23 hX23 hY23 => ?_
          simp (maxSteps := 1000000) (dsimp := false) (disch := omega) only [go_sem, add_addS, ia_someH, wu8, wu16, w32, wu32, wu64, w64, Nat.reduceEqDiff, Nat.reduceBEq, ↓reduceIte, reduceCtorEq, Int.reduceEq, Nat.reduceLT, Nat.reduceLeDiff, Nat.reduceAdd, Nat.reduceMul, Nat.reduceSub, Int.reduceToNat, Int.reduceLT, Int.reduceLE, Int.reduceAdd, Int.reduceSub, Int.reduceMul, Int.reduceNeg, Nat.reducePow, Int.reducePow, hP, h6_4, h6_6, h6_16, h6_20, ltT, ltF, leT, leF, eqT, eqF, condVC]
          refine hX23 ?_
          clear hX23 hY23 X23 Y23
          refine SX.region_d [some 40, some 41, some 42, some 43, some 44, some 45, some 46, some 4] rfl (fun ops hops => ?_)
          unfold Dsts at hops
          simp (maxSteps := 1000000) (dsimp := false) (disch := omega) only [go_sem, add_addS, ia_someH, wu8, wu16, w32, wu32, wu64, w64, Nat.reduceEqDiff, Nat.reduceBEq, ↓reduceIte, reduceCtorEq, Int.reduceEq, Nat.reduceLT, Nat.reduceLeDiff, Nat.reduceAdd, Nat.reduceMul, Nat.reduceSub, Int.reduceToNat, Int.reduceLT, Int.reduceLE, Int.reduceAdd, Int.reduceSub, Int.reduceMul, Int.reduceNeg, Nat.reducePow, Int.reducePow, hP, h6_4, h6_6, h6_16, h6_20, ltT, ltF, leT, leF, eqT, eqF, hops]
          repeat' ((first | refine And.intro (by omega) ?_ | fail); try (with_reducible refine stI ?_); try simp (maxSteps := 1000000) (dsimp := false) (disch := omega) only [go_sem, add_addS, ia_someH, wu8, wu16, w32, wu32, wu64, w64, Nat.reduceEqDiff, Nat.reduceBEq, ↓reduceIte, reduceCtorEq, Int.reduceEq, Nat.reduceLT, Nat.reduceLeDiff, Nat.reduceAdd, Nat.reduceMul, Nat.reduceSub, Int.reduceToNat, Int.reduceLT, Int.reduceLE, Int.reduceAdd, Int.reduceSub, Int.reduceMul, Int.reduceNeg, Nat.reducePow, Int.reducePow, hP, h6_4, h6_6, h6_16, h6_20, ltT, ltF, leT, leF, eqT, eqF, hops])
          refine hK10 (pos + 1, n * 16 + ((s[pos]'hg).toNat - 97 + 10)) _ (some (g4, .stringIter s (pos + 1)) :: L) _ (by first | exact Less.refl _ | exact Less.drop _ _ | exact Less.drops (Less.drop _ _) | exact Less.drops (Less.drops (Less.drop _ _)) | exact Less.drops (Less.drops (Less.drops (Less.drop _ _))) | exact Less.drops (Less.drops (Less.drops (Less.drops (Less.drop _ _))))) ?_ ?_
          · try dsimp only
            refine ⟨?_, ?_, ?_, ?_⟩
            · simp (maxSteps := 1000000) (dsimp := false) (disch := omega) only [go_sem, add_addS, ia_someH, wu8, wu16, w32, wu32, wu64, w64, Nat.reduceEqDiff, Nat.reduceBEq, ↓reduceIte, reduceCtorEq, Int.reduceEq, Nat.reduceLT, Nat.reduceLeDiff, Nat.reduceAdd, Nat.reduceMul, Nat.reduceSub, Int.reduceToNat, Int.reduceLT, Int.reduceLE, Int.reduceAdd, Int.reduceSub, Int.reduceMul, Int.reduceNeg, Nat.reducePow, Int.reducePow, hP, h6_4, h6_6, h6_16, h6_20, ltT, ltF, leT, leF, eqT, eqF]
              rw [pow24, w64 (by omega), or16a hn4 (by omega) (by omega)]; congr 1; omega
            · simp (maxSteps := 1000000) (dsimp := false) (disch := omega) only [go_sem, add_addS, ia_someH, wu8, wu16, w32, wu32, wu64, w64, Nat.reduceEqDiff, Nat.reduceBEq, ↓reduceIte, reduceCtorEq, Int.reduceEq, Nat.reduceLT, Nat.reduceLeDiff, Nat.reduceAdd, Nat.reduceMul, Nat.reduceSub, Int.reduceToNat, Int.reduceLT, Int.reduceLE, Int.reduceAdd, Int.reduceSub, Int.reduceMul, Int.reduceNeg, Nat.reducePow, Int.reducePow, hP, h6_4, h6_6, h6_16, h6_20, ltT, ltF, leT, leF, eqT, eqF]
            · rfl
            · refine ⟨by omega, by rw [Nat.pow_succ]; omega, ?_⟩
              rw [he, drop_byte hg, numF, show hexV (s[pos]'hg).toNat = some ((s[pos]'hg).toNat - 97 + 10) by unfold hexV; rw [if_neg (by omega), if_pos (by omega)]]
          · (try dsimp only); omega
        · skip
          try with_reducible refine stI ?_
          rw [decode_ascii s pos hg (by omega)]
          try with_reducible refine stI ?_
          try simp (maxSteps := 1000000) (dsimp := false) (disch := omega) only [go_sem, add_addS, ia_someH, wu8, wu16, w32, wu32, wu64, w64, Nat.reduceEqDiff, Nat.reduceBEq, ↓reduceIte, reduceCtorEq, Int.reduceEq, Nat.reduceLT, Nat.reduceLeDiff, Nat.reduceAdd, Nat.reduceMul, Nat.reduceSub, Int.reduceToNat, Int.reduceLT, Int.reduceLE, Int.reduceAdd, Int.reduceSub, Int.reduceMul, Int.reduceNeg, Nat.reducePow, Int.reducePow, hP, h4_4, h4_16, ltT, ltF, leT, leF, eqT, eqF, hops]
          have hn4 : n < 4294967296 := Nat.lt_of_lt_of_le hn (Nat.le_trans (Nat.pow_le_pow_right (by decide) (show pos ≤ 7 by omega)) (by decide))
          refine hK11 _ _ ?_
          try clear hK11 K11
          refine SX.seq_k fun K24 hK24 => ?_
          refine SX.cond_k fun X25 Y25 hX25 hY25 => ?_
          simp (maxSteps := 1000000) (dsimp := false) (disch := omega) only [go_sem, add_addS, ia_someH, wu8, wu16, w32, wu32, wu64, w64, Nat.reduceEqDiff, Nat.reduceBEq, ↓reduceIte, reduceCtorEq, Int.reduceEq, Nat.reduceLT, Nat.reduceLeDiff, Nat.reduceAdd, Nat.reduceMul, Nat.reduceSub, Int.reduceToNat, Int.reduceLT, Int.reduceLE, Int.reduceAdd, Int.reduceSub, Int.reduceMul, Int.reduceNeg, Nat.reducePow, Int.reducePow, hP, h4_4, h4_16, ltT, ltF, leT, leF, eqT, eqF, condVC]
          refine hX25 ?_
          clear hX25 hY25 X25 Y25
          refine SX.skip ?_
          try simp only [andThen_normal, andThen_ret, andThen_exit, inBlk_normal, inBlk_ret, inBlk_exit, Nat.reduceEqDiff, if_true, if_false, ↓reduceIte]
          refine hK24 _ _ ?_
          try clear hK24 K24
          refine SX.block ?_
          refine SX.seq_k fun K26 hK26 => ?_
          refine SX.region_d [some 19, some 6] rfl (fun ops hops => ?_)
          unfold Dsts at hops
          simp (maxSteps := 1000000) (dsimp := false) (disch := omega) only [go_sem, add_addS, ia_someH, wu8, wu16, w32, wu32, wu64, w64, Nat.reduceEqDiff, Nat.reduceBEq, ↓reduceIte, reduceCtorEq, Int.reduceEq, Nat.reduceLT, Nat.reduceLeDiff, Nat.reduceAdd, Nat.reduceMul, Nat.reduceSub, Int.reduceToNat, Int.reduceLT, Int.reduceLE, Int.reduceAdd, Int.reduceSub, Int.reduceMul, Int.reduceNeg, Nat.reducePow, Int.reducePow, hP, h4_4, h4_16, ltT, ltF, leT, leF, eqT, eqF, hops]
          refine hK26 _ _ ?_
          try clear hK26 K26
          refine SX.block ?_
          refine SX.seq_k fun K27 hK27 => ?_
          refine SX.region_d [some 21, some 22, some 23, some 24, some 25, some 26, some 20] rfl (fun ops hops => ?_)
          unfold Dsts at hops
          simp (maxSteps := 1000000) (dsimp := false) (disch := omega) only [go_sem, add_addS, ia_someH, wu8, wu16, w32, wu32, wu64, w64, Nat.reduceEqDiff, Nat.reduceBEq, ↓reduceIte, reduceCtorEq, Int.reduceEq, Nat.reduceLT, Nat.reduceLeDiff, Nat.reduceAdd, Nat.reduceMul, Nat.reduceSub, Int.reduceToNat, Int.reduceLT, Int.reduceLE, Int.reduceAdd, Int.reduceSub, Int.reduceMul, Int.reduceNeg, Nat.reducePow, Int.reducePow, hP, h4_4, h4_16, ltT, ltF, leT, leF, eqT, eqF, hops]
          repeat' ((first | refine And.intro (by omega) ?_ | fail); try (with_reducible refine stI ?_); try simp (maxSteps := 1000000) (dsimp := false) (disch := omega) only [go_sem, add_addS, ia_someH, wu8, wu16, w32, wu32, wu64, w64, Nat.reduceEqDiff, Nat.reduceBEq, ↓reduceIte, reduceCtorEq, Int.reduceEq, Nat.reduceLT, Nat.reduceLeDiff, Nat.reduceAdd, Nat.reduceMul, Nat.reduceSub, Int.reduceToNat, Int.reduceLT, Int.reduceLE, Int.reduceAdd, Int.reduceSub, Int.reduceMul, Int.reduceNeg, Nat.reducePow, Int.reducePow, hP, h4_4, h4_16, ltT, ltF, leT, leF, eqT, eqF, hops])
          refine hK27 _ _ ?_
          try clear hK27 K27
          refine SX.live [4, 6, 16, 20] (fun T7 hT7 => ?_)
          simp only [forall_mem_cons', forall_mem_nil', go_sem, add_addS, ia_someH, wu8, wu16, w32, wu32, wu64, w64, Nat.reduceEqDiff, Nat.reduceBEq, ↓reduceIte, reduceCtorEq, Int.reduceEq, Nat.reduceLT, Nat.reduceLeDiff, Nat.reduceAdd, Nat.reduceMul, Nat.reduceSub, Int.reduceToNat, Int.reduceLT, Int.reduceLE, Int.reduceAdd, Int.reduceSub, Int.reduceMul, Int.reduceNeg, Nat.reducePow, Int.reducePow, hP, h4_4, h4_16, ltT, ltF, leT, leF, eqT, eqF] at hT7
          obtain ⟨h7_4, h7_6, h7_16, h7_20⟩ := hT7
          clear h4_4 h4_16 T4
          refine SX.cond_k fun X28 Y28 hX28 hY28 => ?_
          simp (maxSteps := 1000000) (dsimp := false) (disch := omega) only [go_sem, add_addS, ia_someH, wu8, wu16, w32, wu32, wu64, w64, Nat.reduceEqDiff, Nat.reduceBEq, ↓reduceIte, reduceCtorEq, Int.reduceEq, Nat.reduceLT, Nat.reduceLeDiff, Nat.reduceAdd, Nat.reduceMul, Nat.reduceSub, Int.reduceToNat, Int.reduceLT, Int.reduceLE, Int.reduceAdd, Int.reduceSub, Int.reduceMul, Int.reduceNeg, Nat.reducePow, Int.reducePow, hP, h7_4, h7_6, h7_16, h7_20, ltT, ltF, leT, leF, eqT, eqF, condVC]
          refine hY28 ?_
          clear hX28 hY28 X28 Y28
          refine SX.seq_k fun K29 hK29 => ?_
          refine SX.region_d [some 34, some 35, some 36, some 37, some 38, some 39, some 33] rfl (fun ops hops => ?_)
          unfold Dsts at hops
          simp (maxSteps := 1000000) (dsimp := false) (disch := omega) only [go_sem, add_addS, ia_someH, wu8, wu16, w32, wu32, wu64, w64, Nat.reduceEqDiff, Nat.reduceBEq, ↓reduceIte, reduceCtorEq, Int.reduceEq, Nat.reduceLT, Nat.reduceLeDiff, Nat.reduceAdd, Nat.reduceMul, Nat.reduceSub, Int.reduceToNat, Int.reduceLT, Int.reduceLE, Int.reduceAdd, Int.reduceSub, Int.reduceMul, Int.reduceNeg, Nat.reducePow, Int.reducePow, hP, h7_4, h7_6, h7_16, h7_20, ltT, ltF, leT, leF, eqT, eqF, hops]
          repeat' ((first | refine And.intro (by omega) ?_ | fail); try (with_reducible refine stI ?_); try simp (maxSteps := 1000000) (dsimp := false) (disch := omega) only [go_sem, add_addS, ia_someH, wu8, wu16, w32, wu32, wu64, w64, Nat.reduceEqDiff, Nat.reduceBEq, ↓reduceIte, reduceCtorEq, Int.reduceEq, Nat.reduceLT, Nat.reduceLeDiff, Nat.reduceAdd, Nat.reduceMul, Nat.reduceSub, Int.reduceToNat, Int.reduceLT, Int.reduceLE, Int.reduceAdd, Int.reduceSub, Int.reduceMul, Int.reduceNeg, Nat.reducePow, Int.reducePow, hP, h7_4, h7_6, h7_16, h7_20, ltT, ltF, leT, leF, eqT, eqF, hops])
          refine hK29 _ _ ?_
          try clear hK29 K29
          refine SX.cond_k fun X30 Y30 hX30 hY30 => ?_
          simp (maxSteps := 1000000) (dsimp := false) (disch := omega) only [go_sem, add_addS, ia_someH, wu8, wu16, w32, wu32, wu64, w64, Nat.reduceEqDiff, Nat.reduceBEq, ↓reduceIte, reduceCtorEq, Int.reduceEq, Nat.reduceLT, Nat.reduceLeDiff, Nat.reduceAdd, Nat.reduceMul, Nat.reduceSub, Int.reduceToNat, Int.reduceLT, Int.reduceLE, Int.reduceAdd, Int.reduceSub, Int.reduceMul, Int.reduceNeg, Nat.reducePow, Int.reducePow, hP, h7_4, h7_6, h7_16, h7_20, ltT, ltF, leT, leF, eqT, eqF, condVC]
          refine hY30 ?_
          clear hX30 hY30 X30 Y30
          refine SX.seq_k fun K31 hK31 => ?_
          refine SX.region_d [some 2, some 3] rfl (fun ops hops => ?_)
          unfold Dsts at hops
          simp (maxSteps := 1000000) (dsimp := false) (disch := omega) only [go_sem, add_addS, ia_someH, wu8, wu16, w32, wu32, wu64, w64, Nat.reduceEqDiff, Nat.reduceBEq, ↓reduceIte, reduceCtorEq, Int.reduceEq, Nat.reduceLT, Nat.reduceLeDiff, Nat.reduceAdd, Nat.reduceMul, Nat.reduceSub, Int.reduceToNat, Int.reduceLT, Int.reduceLE, Int.reduceAdd, Int.reduceSub, Int.reduceMul, Int.reduceNeg, Nat.reducePow, Int.reducePow, hP, h7_4, h7_6, h7_16, h7_20, ltT, ltF, leT, leF, eqT, eqF, hops]
          refine hK31 _ _ ?_
          try clear hK31 K31
          refine SX.ret ?_
          simp only [andThen_normal, andThen_ret, andThen_exit, inBlk_normal, inBlk_ret, inBlk_exit, Nat.reduceEqDiff, if_true, if_false, ↓reduceIte, retQ_ret]
          try simp only [res0, res1, res2, res3, stK_e, go_sem, add_addS, ia_someH, wu8, wu16, w32, wu32, wu64, w64, Nat.reduceEqDiff, Nat.reduceBEq, ↓reduceIte, reduceCtorEq, Int.reduceEq, Nat.reduceLT, Nat.reduceLeDiff, Nat.reduceAdd, Nat.reduceMul, Nat.reduceSub, Int.reduceToNat, Int.reduceLT, Int.reduceLE, Int.reduceAdd, Int.reduceSub, Int.reduceMul, Int.reduceNeg, Nat.reducePow, Int.reducePow, hP, h7_4, h7_6, h7_16, h7_20, ltT, ltF, leT, leF, eqT, eqF]
          have hn0 : numS s = none := by
            unfold numS; rw [if_pos hs8, he, drop_byte hg, numF, show hexV (s[pos]'hg).toNat = none by unfold hexV; rw [if_neg (by omega), if_neg (by omega)]]
          exact ⟨_, L, (by first | exact Less.refl _ | exact Less.drop _ _ | exact Less.drops (Less.drop _ _) | exact Less.drops (Less.drops (Less.drop _ _)) | exact Less.drops (Less.drops (Less.drops (Less.drop _ _))) | exact Less.drops (Less.drops (Less.drops (Less.drops (Less.drop _ _))))), rfl, by unfold numR; rw [hn0]; exact ⟨rfl, rfl⟩⟩
        · skip
          try with_reducible refine stI ?_
          rw [decode_ascii s pos hg (by omega)]
          try with_reducible refine stI ?_
          try simp (maxSteps := 1000000) (dsimp := false) (disch := omega) only [go_sem, add_addS, ia_someH, wu8, wu16, w32, wu32, wu64, w64, Nat.reduceEqDiff, Nat.reduceBEq, ↓reduceIte, reduceCtorEq, Int.reduceEq, Nat.reduceLT, Nat.reduceLeDiff, Nat.reduceAdd, Nat.reduceMul, Nat.reduceSub, Int.reduceToNat, Int.reduceLT, Int.reduceLE, Int.reduceAdd, Int.reduceSub, Int.reduceMul, Int.reduceNeg, Nat.reducePow, Int.reducePow, hP, h4_4, h4_16, ltT, ltF, leT, leF, eqT, eqF, hops]
          have hn4 : n < 4294967296 := Nat.lt_of_lt_of_le hn (Nat.le_trans (Nat.pow_le_pow_right (by decide) (show pos ≤ 7 by omega)) (by decide))
          refine hK11 _ _ ?_
          try clear hK11 K11
          refine SX.seq_k fun K32 hK32 => ?_
          refine SX.cond_k fun X33 Y33 hX33 hY33 => ?_
          simp (maxSteps := 1000000) (dsimp := false) (disch := omega) only [go_sem, add_addS, ia_someH, wu8, wu16, w32, wu32, wu64, w64, Nat.reduceEqDiff, Nat.reduceBEq, ↓reduceIte, reduceCtorEq, Int.reduceEq, Nat.reduceLT, Nat.reduceLeDiff, Nat.reduceAdd, Nat.reduceMul, Nat.reduceSub, Int.reduceToNat, Int.reduceLT, Int.reduceLE, Int.reduceAdd, Int.reduceSub, Int.reduceMul, Int.reduceNeg, Nat.reducePow, Int.reducePow, hP, h4_4, h4_16, ltT, ltF, leT, leF, eqT, eqF, condVC]
          refine hX33 ?_
          clear hX33 hY33 X33 Y33
          refine SX.skip ?_
          try simp only [andThen_normal, andThen_ret, andThen_exit, inBlk_normal, inBlk_ret, inBlk_exit, Nat.reduceEqDiff, if_true, if_false, ↓reduceIte]
          refine hK32 _ _ ?_
          try clear hK32 K32
          refine SX.block ?_
          refine SX.seq_k fun K34 hK34 => ?_
          refine SX.region_d [some 19, some 6] rfl (fun ops hops => ?_)
          unfold Dsts at hops
          simp (maxSteps := 1000000) (dsimp := false) (disch := omega) only [go_sem, add_addS, ia_someH, wu8, wu16, w32, wu32, wu64, w64, Nat.reduceEqDiff, Nat.reduceBEq, ↓reduceIte, reduceCtorEq, Int.reduceEq, Nat.reduceLT, Nat.reduceLeDiff, Nat.reduceAdd, Nat.reduceMul, Nat.reduceSub, Int.reduceToNat, Int.reduceLT, Int.reduceLE, Int.reduceAdd, Int.reduceSub, Int.reduceMul, Int.reduceNeg, Nat.reducePow, Int.reducePow, hP, h4_4, h4_16, ltT, ltF, leT, leF, eqT, eqF, hops]
          refine hK34 _ _ ?_
          try clear hK34 K34
          refine SX.block ?_
          refine SX.seq_k fun K35 hK35 => ?_
          refine SX.region_d [some 21, some 22, some 23, some 24, some 25, some 26, some 20] rfl (fun ops hops => ?_)
          unfold Dsts at hops
          simp (maxSteps := 1000000) (dsimp := false) (disch := omega) only [go_sem, add_addS, ia_someH, wu8, wu16, w32, wu32, wu64, w64, Nat.reduceEqDiff, Nat.reduceBEq, ↓reduceIte, reduceCtorEq, Int.reduceEq, Nat.reduceLT, Nat.reduceLeDiff, Nat.reduceAdd, Nat.reduceMul, Nat.reduceSub, Int.reduceToNat, Int.reduceLT, Int.reduceLE, Int.reduceAdd, Int.reduceSub, Int.reduceMul, Int.reduceNeg, Nat.reducePow, Int.reducePow, hP, h4_4, h4_16, ltT, ltF, leT, leF, eqT, eqF, hops]
          repeat' ((first | refine And.intro (by omega) ?_ | fail); try (with_reducible refine stI ?_); try simp (maxSteps := 1000000) (dsimp := false) (disch := omega) only [go_sem, add_addS, ia_someH, wu8, wu16, w32, wu32, wu64, w64, Nat.reduceEqDiff, Nat.reduceBEq, ↓reduceIte, reduceCtorEq, Int.reduceEq, Nat.reduceLT, Nat.reduceLeDiff, Nat.reduceAdd, Nat.reduceMul, Nat.reduceSub, Int.reduceToNat, Int.reduceLT, Int.reduceLE, Int.reduceAdd, Int.reduceSub, Int.reduceMul, Int.reduceNeg, Nat.reducePow, Int.reducePow, hP, h4_4, h4_16, ltT, ltF, leT, leF, eqT, eqF, hops])
          refine hK35 _ _ ?_
          try clear hK35 K35
          refine SX.live [4, 6, 16, 20] (fun T8 hT8 => ?_)
          simp only [forall_mem_cons', forall_mem_nil', go_sem, add_addS, ia_someH, wu8, wu16, w32, wu32, wu64, w64, Nat.reduceEqDiff, Nat.reduceBEq, ↓reduceIte, reduceCtorEq, Int.reduceEq, Nat.reduceLT, Nat.reduceLeDiff, Nat.reduceAdd, Nat.reduceMul, Nat.reduceSub, Int.reduceToNat, Int.reduceLT, Int.reduceLE, Int.reduceAdd, Int.reduceSub, Int.reduceMul, Int.reduceNeg, Nat.reducePow, Int.reducePow, hP, h4_4, h4_16, ltT, ltF, leT, leF, eqT, eqF] at hT8
          obtain ⟨h8_4, h8_6, h8_16, h8_20⟩ := hT8
          clear h4_4 h4_16 T4
          refine SX.cond_k fun X36 Y36 hX36 hY36 => ?_
          simp (maxSteps := 1000000) (dsimp := false) (disch := omega) only [go_sem, add_addS, ia_someH, wu8, wu16, w32, wu32, wu64, w64, Nat.reduceEqDiff, Nat.reduceBEq, ↓reduceIte, reduceCtorEq, Int.reduceEq, Nat.reduceLT, Nat.reduceLeDiff, Nat.reduceAdd, Nat.reduceMul, Nat.reduceSub, Int.reduceToNat, Int.reduceLT, Int.reduceLE, Int.reduceAdd, Int.reduceSub, Int.reduceMul, Int.reduceNeg, Nat.reducePow, Int.reducePow, hP, h8_4, h8_6, h8_16, h8_20, ltT, ltF, leT, leF, eqT, eqF, condVC]
          refine hY36 ?_
          clear hX36 hY36 X36 Y36
          refine SX.seq_k fun K37 hK37 => ?_
          refine SX.region_d [some 34, some 35, some 36, some 37, some 38, some 39, some 33] rfl (fun ops hops => ?_)
          unfold Dsts at hops
          simp (maxSteps := 1000000) (dsimp := false) (disch := omega) only [go_sem, add_addS, ia_someH, wu8, wu16, w32, wu32, wu64, w64, Nat.reduceEqDiff, Nat.reduceBEq, ↓reduceIte, reduceCtorEq, Int.reduceEq, Nat.reduceLT, Nat.reduceLeDiff, Nat.reduceAdd, Nat.reduceMul, Nat.reduceSub, Int.reduceToNat, Int.reduceLT, Int.reduceLE, Int.reduceAdd, Int.reduceSub, Int.reduceMul, Int.reduceNeg, Nat.reducePow, Int.reducePow, hP, h8_4, h8_6, h8_16, h8_20, ltT, ltF, leT, leF, eqT, eqF, hops]
          repeat' ((first | refine And.intro (by omega) ?_ | fail); try (with_reducible refine stI ?_); try simp (maxSteps := 1000000) (dsimp := false) (disch := omega) only [go_sem, add_addS, ia_someH, wu8, wu16, w32, wu32, wu64, w64, Nat.reduceEqDiff, Nat.reduceBEq, ↓reduceIte, reduceCtorEq, Int.reduceEq, Nat.reduceLT, Nat.reduceLeDiff, Nat.reduceAdd, Nat.reduceMul, Nat.reduceSub, Int.reduceToNat, Int.reduceLT, Int.reduceLE, Int.reduceAdd, Int.reduceSub, Int.reduceMul, Int.reduceNeg, Nat.reducePow, Int.reducePow, hP, h8_4, h8_6, h8_16, h8_20, ltT, ltF, leT, leF, eqT, eqF, hops])
          refine hK37 _ _ ?_
          try clear hK37 K37
          refine SX.cond_k fun X38 Y38 hX38 hY38 => ?_
          simp (maxSteps := 1000000) (dsimp := false) (disch := omega) only [go_sem, add_addS, ia_someH, wu8, wu16, w32, wu32, wu64, w64, Nat.reduceEqDiff, Nat.reduceBEq, ↓reduceIte, reduceCtorEq, Int.reduceEq, Nat.reduceLT, Nat.reduceLeDiff, Nat.reduceAdd, Nat.reduceMul, Nat.reduceSub, Int.reduceToNat, Int.reduceLT, Int.reduceLE, Int.reduceAdd, Int.reduceSub, Int.reduceMul, Int.reduceNeg, Nat.reducePow, Int.reducePow, hP, h8_4, h8_6, h8_16, h8_20, ltT, ltF, leT, leF, eqT, eqF, condVC]
          refine hY38 ?_
          clear hX38 hY38 X38 Y38
          refine SX.seq_k fun K39 hK39 => ?_
          refine SX.region_d [some 2, some 3] rfl (fun ops hops => ?_)
          unfold Dsts at hops
          simp (maxSteps := 1000000) (dsimp := false) (disch := omega) only [go_sem, add_addS, ia_someH, wu8, wu16, w32, wu32, wu64, w64, Nat.reduceEqDiff, Nat.reduceBEq, ↓reduceIte, reduceCtorEq, Int.reduceEq, Nat.reduceLT, Nat.reduceLeDiff, Nat.reduceAdd, Nat.reduceMul, Nat.reduceSub, Int.reduceToNat, Int.reduceLT, Int.reduceLE, Int.reduceAdd, Int.reduceSub, Int.reduceMul, Int.reduceNeg, Nat.reducePow, Int.reducePow, hP, h8_4, h8_6, h8_16, h8_20, ltT, ltF, leT, leF, eqT, eqF, hops]
          refine hK39 _ _ ?_
          try clear hK39 K39
          refine SX.ret ?_
          simp only [andThen_normal, andThen_ret, andThen_exit, inBlk_normal, inBlk_ret, inBlk_exit, Nat.reduceEqDiff, if_true, if_false, ↓reduceIte, retQ_ret]
          try simp only [res0, res1, res2, res3, stK_e, go_sem, add_addS, ia_someH, wu8, wu16, w32, wu32, wu64, w64, Nat.reduceEqDiff, Nat.reduceBEq, ↓reduceIte, reduceCtorEq, Int.reduceEq, Nat.reduceLT, Nat.reduceLeDiff, Nat.reduceAdd, Nat.reduceMul, Nat.reduceSub, Int.reduceToNat, Int.reduceLT, Int.reduceLE, Int.reduceAdd, Int.reduceSub, Int.reduceMul, Int.reduceNeg, Nat.reducePow, Int.reducePow, hP, h8_4, h8_6, h8_16, h8_20, ltT, ltF, leT, leF, eqT, eqF]
          have hn0 : numS s = none := by
            unfold numS; rw [if_pos hs8, he, drop_byte hg, numF, show hexV (s[pos]'hg).toNat = none by unfold hexV; rw [if_neg (by omega), if_neg (by omega)]]
          exact ⟨_, L, (by first | exact Less.refl _ | exact Less.drop _ _ | exact Less.drops (Less.drop _ _) | exact Less.drops (Less.drops (Less.drop _ _)) | exact Less.drops (Less.drops (Less.drops (Less.drop _ _))) | exact Less.drops (Less.drops (Less.drops (Less.drops (Less.drop _ _))))), rfl, by unfold numR; rw [hn0]; exact ⟨rfl, rfl⟩⟩
        · skip
          try with_reducible refine stI ?_
          rw [decode_ascii s pos hg (by omega)]
          try with_reducible refine stI ?_
          try simp (maxSteps := 1000000) (dsimp := false) (disch := omega) only [go_sem, add_addS, ia_someH, wu8, wu16, w32, wu32, wu64, w64, Nat.reduceEqDiff, Nat.reduceBEq, ↓reduceIte, reduceCtorEq, Int.reduceEq, Nat.reduceLT, Nat.reduceLeDiff, Nat.reduceAdd, Nat.reduceMul, Nat.reduceSub, Int.reduceToNat, Int.reduceLT, Int.reduceLE, Int.reduceAdd, Int.reduceSub, Int.reduceMul, Int.reduceNeg, Nat.reducePow, Int.reducePow, hP, h4_4, h4_16, ltT, ltF, leT, leF, eqT, eqF, hops]
          have hn4 : n < 4294967296 := Nat.lt_of_lt_of_le hn (Nat.le_trans (Nat.pow_le_pow_right (by decide) (show pos ≤ 7 by omega)) (by decide))
          refine hK11 _ _ ?_
          try clear hK11 K11
          refine SX.seq_k fun K40 hK40 => ?_
          refine SX.cond_k fun X41 Y41 hX41 hY41 => ?_
          simp (maxSteps := 1000000) (dsimp := false) (disch := omega) only [go_sem, add_addS, ia_someH, wu8, wu16, w32, wu32, wu64, w64, Nat.reduceEqDiff, Nat.reduceBEq, ↓reduceIte, reduceCtorEq, Int.reduceEq, Nat.reduceLT, Nat.reduceLeDiff, Nat.reduceAdd, Nat.reduceMul, Nat.reduceSub, Int.reduceToNat, Int.reduceLT, Int.reduceLE, Int.reduceAdd, Int.reduceSub, Int.reduceMul, Int.reduceNeg, Nat.reducePow, Int.reducePow, hP, h4_4, h4_16, ltT, ltF, leT, leF, eqT, eqF, condVC]
          refine hX41 ?_
          clear hX41 hY41 X41 Y41
          refine SX.skip ?_
          try simp only [andThen_normal, andThen_ret, andThen_exit, inBlk_normal, inBlk_ret, inBlk_exit, Nat.reduceEqDiff, if_true, if_false, ↓reduceIte]
          refine hK40 _ _ ?_
          try clear hK40 K40
          refine SX.block ?_
          refine SX.seq_k fun K42 hK42 => ?_
          refine SX.region_d [some 19, some 6] rfl (fun ops hops => ?_)
          unfold Dsts at hops
          simp (maxSteps := 1000000) (dsimp := false) (disch := omega) only [go_sem, add_addS, ia_someH, wu8, wu16, w32, wu32, wu64, w64, Nat.reduceEqDiff, Nat.reduceBEq, ↓reduceIte, reduceCtorEq, Int.reduceEq, Nat.reduceLT, Nat.reduceLeDiff, Nat.reduceAdd, Nat.reduceMul, Nat.reduceSub, Int.reduceToNat, Int.reduceLT, Int.reduceLE, Int.reduceAdd, Int.reduceSub, Int.reduceMul, Int.reduceNeg, Nat.reducePow, Int.reducePow, hP, h4_4, h4_16, ltT, ltF, leT, leF, eqT, eqF, hops]
          refine hK42 _ _ ?_
          try clear hK42 K42
          refine SX.block ?_
          refine SX.seq_k fun K43 hK43 => ?_
          refine SX.region_d [some 21, some 22, some 23, some 24, some 25, some 26, some 20] rfl (fun ops hops => ?_)
          unfold Dsts at hops
          simp (maxSteps := 1000000) (dsimp := false) (disch := omega) only [go_sem, add_addS, ia_someH, wu8, wu16, w32, wu32, wu64, w64, Nat.reduceEqDiff, Nat.reduceBEq, ↓reduceIte, reduceCtorEq, Int.reduceEq, Nat.reduceLT, Nat.reduceLeDiff, Nat.reduceAdd, Nat.reduceMul, Nat.reduceSub, Int.reduceToNat, Int.reduceLT, Int.reduceLE, Int.reduceAdd, Int.reduceSub, Int.reduceMul, Int.reduceNeg, Nat.reducePow, Int.reducePow, hP, h4_4, h4_16, ltT, ltF, leT, leF, eqT, eqF, hops]
          repeat' ((first | refine And.intro (by omega) ?_ | fail); try (with_reducible refine stI ?_); try simp (maxSteps := 1000000) (dsimp := false) (disch := omega) only [go_sem, add_addS, ia_someH, wu8, wu16, w32, wu32, wu64, w64, Nat.reduceEqDiff, Nat.reduceBEq, ↓reduceIte, reduceCtorEq, Int.reduceEq, Nat.reduceLT, Nat.reduceLeDiff, Nat.reduceAdd, Nat.reduceMul, Nat.reduceSub, Int.reduceToNat, Int.reduceLT, Int.reduceLE, Int.reduceAdd, Int.reduceSub, Int.reduceMul, Int.reduceNeg, Nat.reducePow, Int.reducePow, hP, h4_4, h4_16, ltT, ltF, leT, leF, eqT, eqF, hops])
          refine hK43 _ _ ?_
          try clear hK43 K43
          refine SX.live [4, 6, 16, 20] (fun T9 hT9 => ?_)
          simp only [forall_mem_cons', forall_mem_nil', go_sem, add_addS, ia_someH, wu8, wu16, w32, wu32, wu64, w64, Nat.reduceEqDiff, Nat.reduceBEq, ↓reduceIte, reduceCtorEq, Int.reduceEq, Nat.reduceLT, Nat.reduceLeDiff, Nat.reduceAdd, Nat.reduceMul, Nat.reduceSub, Int.reduceToNat, Int.reduceLT, Int.reduceLE, Int.reduceAdd, Int.reduceSub, Int.reduceMul, Int.reduceNeg, Nat.reducePow, Int.reducePow, hP, h4_4, h4_16, ltT, ltF, leT, leF, eqT, eqF] at hT9
          obtain ⟨h9_4, h9_6, h9_16, h9_20⟩ := hT9
          clear h4_4 h4_16 T4
          refine SX.cond_k fun X44 Y44 hX44 hY44 => ?_
          simp (maxSteps := 1000000) (dsimp := false) (disch := omega) only [go_sem, add_addS, ia_someH, wu8, wu16, w32, wu32, wu64, w64, Nat.reduceEqDiff, Nat.reduceBEq, ↓reduceIte, reduceCtorEq, Int.reduceEq, Nat.reduceLT, Nat.reduceLeDiff, Nat.reduceAdd, Nat.reduceMul, Nat.reduceSub, Int.reduceToNat, Int.reduceLT, Int.reduceLE, Int.reduceAdd, Int.reduceSub, Int.reduceMul, Int.reduceNeg, Nat.reducePow, Int.reducePow, hP, h9_4, h9_6, h9_16, h9_20, ltT, ltF, leT, leF, eqT, eqF, condVC]
          refine hY44 ?_
          clear hX44 hY44 X44 Y44
          refine SX.seq_k fun K45 hK45 => ?_
          refine SX.region_d [some 34, some 35, some 36, some 37, some 38, some 39, some 33] rfl (fun ops hops => ?_)
          unfold Dsts at hops
          simp (maxSteps := 1000000) (dsimp := false) (disch := omega) only [go_sem, add_addS, ia_someH, wu8, wu16, w32, wu32, wu64, w64, Nat.reduceEqDiff, Nat.reduceBEq, ↓reduceIte, reduceCtorEq, Int.reduceEq, Nat.reduceLT, Nat.reduceLeDiff, Nat.reduceAdd, Nat.reduceMul, Nat.reduceSub, Int.reduceToNat, Int.reduceLT, Int.reduceLE, Int.reduceAdd, Int.reduceSub, Int.reduceMul, Int.reduceNeg, Nat.reducePow, Int.reducePow, hP, h9_4, h9_6, h9_16, h9_20, ltT, ltF, leT, leF, eqT, eqF, hops]
          repeat' ((first | refine And.intro (by omega) ?_ | fail); try (with_reducible refine stI ?_); try simp (maxSteps := 1000000) (dsimp := false) (disch := omega) only [go_sem, add_addS, ia_someH, wu8, wu16, w32, wu32, wu64, w64, Nat.reduceEqDiff, Nat.reduceBEq, ↓reduceIte, reduceCtorEq, Int.reduceEq, Nat.reduceLT, Nat.reduceLeDiff, Nat.reduceAdd, Nat.reduceMul, Nat.reduceSub, Int.reduceToNat, Int.reduceLT, Int.reduceLE, Int.reduceAdd, Int.reduceSub, Int.reduceMul, Int.reduceNeg, Nat.reducePow, Int.reducePow, hP, h9_4, h9_6, h9_16, h9_20, ltT, ltF, leT, leF, eqT, eqF, hops])
          refine hK45 _ _ ?_
          try clear hK45 K45
          refine SX.cond_k fun X46 Y46 hX46 hY46 => ?_
          simp (maxSteps := 1000000) (dsimp := false) (disch := omega) only [go_sem, add_addS, ia_someH, wu8, wu16, w32, wu32, wu64, w64, Nat.reduceEqDiff, Nat.reduceBEq, ↓reduceIte, reduceCtorEq, Int.reduceEq, Nat.reduceLT, Nat.reduceLeDiff, Nat.reduceAdd, Nat.reduceMul, Nat.reduceSub, Int.reduceToNat, Int.reduceLT, Int.reduceLE, Int.reduceAdd, Int.reduceSub, Int.reduceMul, Int.reduceNeg, Nat.reducePow, Int.reducePow, hP, h9_4, h9_6, h9_16, h9_20, ltT, ltF, leT, leF, eqT, eqF, condVC]
          refine hY46 ?_
          clear hX46 hY46 X46 Y46
          refine SX.seq_k fun K47 hK47 => ?_
          refine SX.region_d [some 2, some 3] rfl (fun ops hops => ?_)
          unfold Dsts at hops
          simp (maxSteps := 1000000) (dsimp := false) (disch := omega) only [go_sem, add_addS, ia_someH, wu8, wu16, w32, wu32, wu64, w64, Nat.reduceEqDiff, Nat.reduceBEq, ↓reduceIte, reduceCtorEq, Int.reduceEq, Nat.reduceLT, Nat.reduceLeDiff, Nat.reduceAdd, Nat.reduceMul, Nat.reduceSub, Int.reduceToNat, Int.reduceLT, Int.reduceLE, Int.reduceAdd, Int.reduceSub, Int.reduceMul, Int.reduceNeg, Nat.reducePow, Int.reducePow, hP, h9_4, h9_6, h9_16, h9_20, ltT, ltF, leT, leF, eqT, eqF, hops]
          refine hK47 _ _ ?_
          try clear hK47 K47
          refine SX.ret ?_
          simp only [andThen_normal, andThen_ret, andThen_exit, inBlk_normal, inBlk_ret, inBlk_exit, Nat.reduceEqDiff, if_true, if_false, ↓reduceIte, retQ_ret]
          try simp only [res0, res1, res2, res3, stK_e, go_sem, add_addS, ia_someH, wu8, wu16, w32, wu32, wu64, w64, Nat.reduceEqDiff, Nat.reduceBEq, ↓reduceIte, reduceCtorEq, Int.reduceEq, Nat.reduceLT, Nat.reduceLeDiff, Nat.reduceAdd, Nat.reduceMul, Nat.reduceSub, Int.reduceToNat, Int.reduceLT, Int.reduceLE, Int.reduceAdd, Int.reduceSub, Int.reduceMul, Int.reduceNeg, Nat.reducePow, Int.reducePow, hP, h9_4, h9_6, h9_16, h9_20, ltT, ltF, leT, leF, eqT, eqF]
          have hn0 : numS s = none := by
            unfold numS; rw [if_pos hs8, he, drop_byte hg, numF, show hexV (s[pos]'hg).toNat = none by unfold hexV; rw [if_neg (by omega), if_neg (by omega)]]
          exact ⟨_, L, (by first | exact Less.refl _ | exact Less.drop _ _ | exact Less.drops (Less.drop _ _) | exact Less.drops (Less.drops (Less.drop _ _)) | exact Less.drops (Less.drops (Less.drops (Less.drop _ _))) | exact Less.drops (Less.drops (Less.drops (Less.drops (Less.drop _ _))))), rfl, by unfold numR; rw [hn0]; exact ⟨rfl, rfl⟩⟩
        · skip
          try with_reducible refine stI ?_
          have hdh := (decode_high s pos hg ha).1
          have hdl := decode_le s pos
          generalize Utf8.decode s pos = q at hdh hdl
          obtain ⟨c, wd⟩ := q
          dsimp only at hdh hdl
          try with_reducible refine stI ?_
          try simp (maxSteps := 1000000) (dsimp := false) (disch := omega) only [go_sem, add_addS, ia_someH, wu8, wu16, w32, wu32, wu64, w64, Nat.reduceEqDiff, Nat.reduceBEq, ↓reduceIte, reduceCtorEq, Int.reduceEq, Nat.reduceLT, Nat.reduceLeDiff, Nat.reduceAdd, Nat.reduceMul, Nat.reduceSub, Int.reduceToNat, Int.reduceLT, Int.reduceLE, Int.reduceAdd, Int.reduceSub, Int.reduceMul, Int.reduceNeg, Nat.reducePow, Int.reducePow, hP, h4_4, h4_16, ltT, ltF, leT, leF, eqT, eqF, hops]
          refine hK11 _ _ ?_
          try clear hK11 K11
          refine SX.seq_k fun K48 hK48 => ?_
          refine SX.cond_k fun X49 Y49 hX49 hY49 => ?_
          simp (maxSteps := 1000000) (dsimp := false) (disch := omega) only [go_sem, add_addS, ia_someH, wu8, wu16, w32, wu32, wu64, w64, Nat.reduceEqDiff, Nat.reduceBEq, ↓reduceIte, reduceCtorEq, Int.reduceEq, Nat.reduceLT, Nat.reduceLeDiff, Nat.reduceAdd, Nat.reduceMul, Nat.reduceSub, Int.reduceToNat, Int.reduceLT, Int.reduceLE, Int.reduceAdd, Int.reduceSub, Int.reduceMul, Int.reduceNeg, Nat.reducePow, Int.reducePow, hP, h4_4, h4_16, ltT, ltF, leT, leF, eqT, eqF, condVC]
          refine hX49 ?_
          clear hX49 hY49 X49 Y49
          refine SX.skip ?_
          try simp only [andThen_normal, andThen_ret, andThen_exit, inBlk_normal, inBlk_ret, inBlk_exit, Nat.reduceEqDiff, if_true, if_false, ↓reduceIte]
          refine hK48 _ _ ?_
          try clear hK48 K48
          refine SX.block ?_
          refine SX.seq_k fun K50 hK50 => ?_
          refine SX.region_d [some 19, some 6] rfl (fun ops hops => ?_)
          unfold Dsts at hops
          simp (maxSteps := 1000000) (dsimp := false) (disch := omega) only [go_sem, add_addS, ia_someH, wu8, wu16, w32, wu32, wu64, w64, Nat.reduceEqDiff, Nat.reduceBEq, ↓reduceIte, reduceCtorEq, Int.reduceEq, Nat.reduceLT, Nat.reduceLeDiff, Nat.reduceAdd, Nat.reduceMul, Nat.reduceSub, Int.reduceToNat, Int.reduceLT, Int.reduceLE, Int.reduceAdd, Int.reduceSub, Int.reduceMul, Int.reduceNeg, Nat.reducePow, Int.reducePow, hP, h4_4, h4_16, ltT, ltF, leT, leF, eqT, eqF, hops]
          refine hK50 _ _ ?_
          try clear hK50 K50
          refine SX.block ?_
          refine SX.seq_k fun K51 hK51 => ?_
          refine SX.region_d [some 21, some 22, some 23, some 24, some 25, some 26, some 20] rfl (fun ops hops => ?_)
          unfold Dsts at hops
          simp (maxSteps := 1000000) (dsimp := false) (disch := omega) only [go_sem, add_addS, ia_someH, wu8, wu16, w32, wu32, wu64, w64, Nat.reduceEqDiff, Nat.reduceBEq, ↓reduceIte, reduceCtorEq, Int.reduceEq, Nat.reduceLT, Nat.reduceLeDiff, Nat.reduceAdd, Nat.reduceMul, Nat.reduceSub, Int.reduceToNat, Int.reduceLT, Int.reduceLE, Int.reduceAdd, Int.reduceSub, Int.reduceMul, Int.reduceNeg, Nat.reducePow, Int.reducePow, hP, h4_4, h4_16, ltT, ltF, leT, leF, eqT, eqF, hops]
          repeat' ((first | refine And.intro (by omega) ?_ | fail); try (with_reducible refine stI ?_); try simp (maxSteps := 1000000) (dsimp := false) (disch := omega) only [go_sem, add_addS, ia_someH, wu8, wu16, w32, wu32, wu64, w64, Nat.reduceEqDiff, Nat.reduceBEq, ↓reduceIte, reduceCtorEq, Int.reduceEq, Nat.reduceLT, Nat.reduceLeDiff, Nat.reduceAdd, Nat.reduceMul, Nat.reduceSub, Int.reduceToNat, Int.reduceLT, Int.reduceLE, Int.reduceAdd, Int.reduceSub, Int.reduceMul, Int.reduceNeg, Nat.reducePow, Int.reducePow, hP, h4_4, h4_16, ltT, ltF, leT, leF, eqT, eqF, hops])
          refine hK51 _ _ ?_
          try clear hK51 K51
          refine SX.live [4, 6, 16, 20] (fun T10 hT10 => ?_)
          simp only [forall_mem_cons', forall_mem_nil', go_sem, add_addS, ia_someH, wu8, wu16, w32, wu32, wu64, w64, Nat.reduceEqDiff, Nat.reduceBEq, ↓reduceIte, reduceCtorEq, Int.reduceEq, Nat.reduceLT, Nat.reduceLeDiff, Nat.reduceAdd, Nat.reduceMul, Nat.reduceSub, Int.reduceToNat, Int.reduceLT, Int.reduceLE, Int.reduceAdd, Int.reduceSub, Int.reduceMul, Int.reduceNeg, Nat.reducePow, Int.reducePow, hP, h4_4, h4_16, ltT, ltF, leT, leF, eqT, eqF] at hT10
          obtain ⟨h10_4, h10_6, h10_16, h10_20⟩ := hT10
          clear h4_4 h4_16 T4
          refine SX.cond_k fun X52 Y52 hX52 hY52 => ?_
          simp (maxSteps := 1000000) (dsimp := false) (disch := omega) only [go_sem, add_addS, ia_someH, wu8, wu16, w32, wu32, wu64, w64, Nat.reduceEqDiff, Nat.reduceBEq, ↓reduceIte, reduceCtorEq, Int.reduceEq, Nat.reduceLT, Nat.reduceLeDiff, Nat.reduceAdd, Nat.reduceMul, Nat.reduceSub, Int.reduceToNat, Int.reduceLT, Int.reduceLE, Int.reduceAdd, Int.reduceSub, Int.reduceMul, Int.reduceNeg, Nat.reducePow, Int.reducePow, hP, h10_4, h10_6, h10_16, h10_20, ltT, ltF, leT, leF, eqT, eqF, condVC]
          refine hY52 ?_
          clear hX52 hY52 X52 Y52
          refine SX.seq_k fun K53 hK53 => ?_
          refine SX.region_d [some 34, some 35, some 36, some 37, some 38, some 39, some 33] rfl (fun ops hops => ?_)
          unfold Dsts at hops
          simp (maxSteps := 1000000) (dsimp := false) (disch := omega) only [go_sem, add_addS, ia_someH, wu8, wu16, w32, wu32, wu64, w64, Nat.reduceEqDiff, Nat.reduceBEq, ↓reduceIte, reduceCtorEq, Int.reduceEq, Nat.reduceLT, Nat.reduceLeDiff, Nat.reduceAdd, Nat.reduceMul, Nat.reduceSub, Int.reduceToNat, Int.reduceLT, Int.reduceLE, Int.reduceAdd, Int.reduceSub, Int.reduceMul, Int.reduceNeg, Nat.reducePow, Int.reducePow, hP, h10_4, h10_6, h10_16, h10_20, ltT, ltF, leT, leF, eqT, eqF, hops]
          repeat' ((first | refine And.intro (by omega) ?_ | fail); try (with_reducible refine stI ?_); try simp (maxSteps := 1000000) (dsimp := false) (disch := omega) only [go_sem, add_addS, ia_someH, wu8, wu16, w32, wu32, wu64, w64, Nat.reduceEqDiff, Nat.reduceBEq, ↓reduceIte, reduceCtorEq, Int.reduceEq, Nat.reduceLT, Nat.reduceLeDiff, Nat.reduceAdd, Nat.reduceMul, Nat.reduceSub, Int.reduceToNat, Int.reduceLT, Int.reduceLE, Int.reduceAdd, Int.reduceSub, Int.reduceMul, Int.reduceNeg, Nat.reducePow, Int.reducePow, hP, h10_4, h10_6, h10_16, h10_20, ltT, ltF, leT, leF, eqT, eqF, hops])
          refine hK53 _ _ ?_
          try clear hK53 K53
          refine SX.cond_k fun X54 Y54 hX54 hY54 => ?_
          simp (maxSteps := 1000000) (dsimp := false) (disch := omega) only [go_sem, add_addS, ia_someH, wu8, wu16, w32, wu32, wu64, w64, Nat.reduceEqDiff, Nat.reduceBEq, ↓reduceIte, reduceCtorEq, Int.reduceEq, Nat.reduceLT, Nat.reduceLeDiff, Nat.reduceAdd, Nat.reduceMul, Nat.reduceSub, Int.reduceToNat, Int.reduceLT, Int.reduceLE, Int.reduceAdd, Int.reduceSub, Int.reduceMul, Int.reduceNeg, Nat.reducePow, Int.reducePow, hP, h10_4, h10_6, h10_16, h10_20, ltT, ltF, leT, leF, eqT, eqF, condVC]
          refine hY54 ?_
          clear hX54 hY54 X54 Y54
          refine SX.seq_k fun K55 hK55 => ?_
          refine SX.region_d [some 2, some 3] rfl (fun ops hops => ?_)
          unfold Dsts at hops
          simp (maxSteps := 1000000) (dsimp := false) (disch := omega) only [go_sem, add_addS, ia_someH, wu8, wu16, w32, wu32, wu64, w64, Nat.reduceEqDiff, Nat.reduceBEq, ↓reduceIte, reduceCtorEq, Int.reduceEq, Nat.reduceLT, Nat.reduceLeDiff, Nat.reduceAdd, Nat.reduceMul, Nat.reduceSub, Int.reduceToNat, Int.reduceLT, Int.reduceLE, Int.reduceAdd, Int.reduceSub, Int.reduceMul, Int.reduceNeg, Nat.reducePow, Int.reducePow, hP, h10_4, h10_6, h10_16, h10_20, ltT, ltF, leT, leF, eqT, eqF, hops]
          refine hK55 _ _ ?_
          try clear hK55 K55
          refine SX.ret ?_
          simp only [andThen_normal, andThen_ret, andThen_exit, inBlk_normal, inBlk_ret, inBlk_exit, Nat.reduceEqDiff, if_true, if_false, ↓reduceIte, retQ_ret]
          try simp only [res0, res1, res2, res3, stK_e, go_sem, add_addS, ia_someH, wu8, wu16, w32, wu32, wu64, w64, Nat.reduceEqDiff, Nat.reduceBEq, ↓reduceIte, reduceCtorEq, Int.reduceEq, Nat.reduceLT, Nat.reduceLeDiff, Nat.reduceAdd, Nat.reduceMul, Nat.reduceSub, Int.reduceToNat, Int.reduceLT, Int.reduceLE, Int.reduceAdd, Int.reduceSub, Int.reduceMul, Int.reduceNeg, Nat.reducePow, Int.reducePow, hP, h10_4, h10_6, h10_16, h10_20, ltT, ltF, leT, leF, eqT, eqF]
          have hn0 : numS s = none := by
            unfold numS; rw [if_pos hs8, he, drop_byte hg, numF, show hexV (s[pos]'hg).toNat = none by unfold hexV; rw [if_neg (by omega), if_neg (by omega)]]
          exact ⟨_, L, (by first | exact Less.refl _ | exact Less.drop _ _ | exact Less.drops (Less.drop _ _) | exact Less.drops (Less.drops (Less.drop _ _)) | exact Less.drops (Less.drops (Less.drops (Less.drop _ _))) | exact Less.drops (Less.drops (Less.drops (Less.drops (Less.drop _ _))))), rfl, by unfold numR; rw [hn0]; exact ⟨rfl, rfl⟩⟩
        · skip
          try with_reducible refine stI ?_
          try with_reducible refine stI ?_
          try simp (maxSteps := 1000000) (dsimp := false) (disch := omega) only [go_sem, add_addS, ia_someH, wu8, wu16, w32, wu32, wu64, w64, Nat.reduceEqDiff, Nat.reduceBEq, ↓reduceIte, reduceCtorEq, Int.reduceEq, Nat.reduceLT, Nat.reduceLeDiff, Nat.reduceAdd, Nat.reduceMul, Nat.reduceSub, Int.reduceToNat, Int.reduceLT, Int.reduceLE, Int.reduceAdd, Int.reduceSub, Int.reduceMul, Int.reduceNeg, Nat.reducePow, Int.reducePow, hP, h4_4, h4_16, ltT, ltF, leT, leF, eqT, eqF, hops]
          refine hK11 _ _ ?_
          try clear hK11 K11
          refine SX.seq_k fun K56 hK56 => ?_
          refine SX.cond_k fun X57 Y57 hX57 hY57 => ?_
          simp (maxSteps := 1000000) (dsimp := false) (disch := omega) only [go_sem, add_addS, ia_someH, wu8, wu16, w32, wu32, wu64, w64, Nat.reduceEqDiff, Nat.reduceBEq, ↓reduceIte, reduceCtorEq, Int.reduceEq, Nat.reduceLT, Nat.reduceLeDiff, Nat.reduceAdd, Nat.reduceMul, Nat.reduceSub, Int.reduceToNat, Int.reduceLT, Int.reduceLE, Int.reduceAdd, Int.reduceSub, Int.reduceMul, Int.reduceNeg, Nat.reducePow, Int.reducePow, hP, h4_4, h4_16, ltT, ltF, leT, leF, eqT, eqF, condVC]
          refine hY57 ?_
          clear hX57 hY57 X57 Y57
          refine SX.exit ?_
          try simp only [andThen_normal, andThen_ret, andThen_exit, inBlk_normal, inBlk_ret, inBlk_exit, Nat.reduceEqDiff, if_true, if_false, ↓reduceIte]
          refine hK8 _ _ ?_
          try clear hK8 K8
          refine SX.seq_k fun K58 hK58 => ?_
          refine SX.region_d [some 47, some 2, some 3] rfl (fun ops hops => ?_)
          unfold Dsts at hops
          simp (maxSteps := 1000000) (dsimp := false) (disch := omega) only [go_sem, add_addS, ia_someH, wu8, wu16, w32, wu32, wu64, w64, Nat.reduceEqDiff, Nat.reduceBEq, ↓reduceIte, reduceCtorEq, Int.reduceEq, Nat.reduceLT, Nat.reduceLeDiff, Nat.reduceAdd, Nat.reduceMul, Nat.reduceSub, Int.reduceToNat, Int.reduceLT, Int.reduceLE, Int.reduceAdd, Int.reduceSub, Int.reduceMul, Int.reduceNeg, Nat.reducePow, Int.reducePow, hP, h4_4, h4_16, ltT, ltF, leT, leF, eqT, eqF, hops]
          refine hK58 _ _ ?_
          try clear hK58 K58
          refine SX.ret ?_
          simp only [andThen_normal, andThen_ret, andThen_exit, inBlk_normal, inBlk_ret, inBlk_exit, Nat.reduceEqDiff, if_true, if_false, ↓reduceIte, retQ_ret]
          try simp only [res0, res1, res2, res3, stK_e, go_sem, add_addS, ia_someH, wu8, wu16, w32, wu32, wu64, w64, Nat.reduceEqDiff, Nat.reduceBEq, ↓reduceIte, reduceCtorEq, Int.reduceEq, Nat.reduceLT, Nat.reduceLeDiff, Nat.reduceAdd, Nat.reduceMul, Nat.reduceSub, Int.reduceToNat, Int.reduceLT, Int.reduceLE, Int.reduceAdd, Int.reduceSub, Int.reduceMul, Int.reduceNeg, Nat.reducePow, Int.reducePow, hP, h4_4, h4_16, ltT, ltF, leT, leF, eqT, eqF]
          have hn0 : numS s = some n := by
            unfold numS; rw [if_pos hs8, he, List.drop_eq_nil_of_le (by rw [Array.length_toList]; exact Nat.le_of_not_lt hg), numF]
          exact ⟨_, L, (by first | exact Less.refl _ | exact Less.drop _ _ | exact Less.drops (Less.drop _ _) | exact Less.drops (Less.drops (Less.drop _ _)) | exact Less.drops (Less.drops (Less.drops (Less.drop _ _))) | exact Less.drops (Less.drops (Less.drops (Less.drops (Less.drop _ _))))), rfl, by unfold numR; rw [hn0]; exact ⟨rfl, rfl⟩⟩

end Go.Proofs.YthhogfnghaikaaaDoor
