/- A part of the proof of OpsLinesCardSaid. -/
import Derived.Test.YthhogfnghaikaaaDoorCD10
set_option linter.unusedVariables false
set_option linter.unusedSimpArgs false
namespace Go.Proofs.YthhogfnghaikaaaDoor
open Go.RowKit Go.SX Go.Proofs
set_option maxHeartbeats 1000000 in
set_option maxRecDepth 100000 in
theorem OpsThere_spec {Γ : Ctx} (hP : Γ.P = Tryd.prog) {L : Hp} {o : Ord} (ho : OkO o) (hM : HasM Γ) :
    SCall Γ 3 #[(.agg o.cells.toArray)] L (fun v L' => v = .bool true ∧ L' = L) := by
  refine SCall.enter (n := 76) (res1 2) (hP ▸ Tryd.func3) rfl rfl (by simp) (res1_ok rfl) ?_
  refine SX.seq_k fun K1 hK1 => ?_
  refine SX.region_d [some 1, some 2] rfl (fun ops hops => ?_)
  unfold Dsts at hops
  simp (maxSteps := 1000000) (dsimp := false) (disch := omega) only [go_sem, add_addS, ia_someH, wu8, wu16, w32, wu32, wu64, w64, Nat.reduceEqDiff, Nat.reduceBEq, ↓reduceIte, reduceCtorEq, Int.reduceEq, Nat.reduceLT, Nat.reduceLeDiff, Nat.reduceAdd, Nat.reduceMul, Nat.reduceSub, Int.reduceToNat, Int.reduceLT, Int.reduceLE, Int.reduceAdd, Int.reduceSub, Int.reduceMul, Int.reduceNeg, Nat.reducePow, Int.reducePow, hP, ltT, ltF, leT, leF, eqT, eqF, hops]
  repeat' ((first | intro g0 | fail); try (with_reducible refine stI ?_); try simp (maxSteps := 1000000) (dsimp := false) (disch := omega) only [go_sem, add_addS, ia_someH, wu8, wu16, w32, wu32, wu64, w64, Nat.reduceEqDiff, Nat.reduceBEq, ↓reduceIte, reduceCtorEq, Int.reduceEq, Nat.reduceLT, Nat.reduceLeDiff, Nat.reduceAdd, Nat.reduceMul, Nat.reduceSub, Int.reduceToNat, Int.reduceLT, Int.reduceLE, Int.reduceAdd, Int.reduceSub, Int.reduceMul, Int.reduceNeg, Nat.reducePow, Int.reducePow, hP, ltT, ltF, leT, leF, eqT, eqF, hops])
  refine hK1 _ _ ?_
  try clear hK1 K1
  refine SX.seq_k fun K2 hK2 => ?_
  refine SX.region_d [some 12, some 3] rfl (fun ops hops => ?_)
  unfold Dsts at hops
  simp (maxSteps := 1000000) (dsimp := false) (disch := omega) only [go_sem, add_addS, ia_someH, wu8, wu16, w32, wu32, wu64, w64, Nat.reduceEqDiff, Nat.reduceBEq, ↓reduceIte, reduceCtorEq, Int.reduceEq, Nat.reduceLT, Nat.reduceLeDiff, Nat.reduceAdd, Nat.reduceMul, Nat.reduceSub, Int.reduceToNat, Int.reduceLT, Int.reduceLE, Int.reduceAdd, Int.reduceSub, Int.reduceMul, Int.reduceNeg, Nat.reducePow, Int.reducePow, hP, ltT, ltF, leT, leF, eqT, eqF, hops]
  repeat' ((first | (refine SCall.mono (awake_spec hP hM) ?_; rintro v_ L_ ⟨hv_, hL_⟩; rw [hv_, hL_]; clear hv_ hL_ v_ L_) | refine ⟨_, awake_spec hP hM, ?_⟩ | refine ⟨_, fun L0 hl0 => awake_spec hP hM, ?_⟩ | refine And.intro (by omega) ?_ | fail); try (with_reducible refine stI ?_); try simp (maxSteps := 1000000) (dsimp := false) (disch := omega) only [go_sem, add_addS, ia_someH, wu8, wu16, w32, wu32, wu64, w64, Nat.reduceEqDiff, Nat.reduceBEq, ↓reduceIte, reduceCtorEq, Int.reduceEq, Nat.reduceLT, Nat.reduceLeDiff, Nat.reduceAdd, Nat.reduceMul, Nat.reduceSub, Int.reduceToNat, Int.reduceLT, Int.reduceLE, Int.reduceAdd, Int.reduceSub, Int.reduceMul, Int.reduceNeg, Nat.reducePow, Int.reducePow, hP, ltT, ltF, leT, leF, eqT, eqF, hops])
  refine hK2 _ _ ?_
  try clear hK2 K2
  refine SX.seq_k fun K3 hK3 => ?_
  refine SX.region_d [some 14, some 15, some 13, some 16, some 17, some 4, some 5] rfl (fun ops hops => ?_)
  unfold Dsts at hops
  simp (maxSteps := 1000000) (dsimp := false) (disch := omega) only [go_sem, add_addS, ia_someH, wu8, wu16, w32, wu32, wu64, w64, Nat.reduceEqDiff, Nat.reduceBEq, ↓reduceIte, reduceCtorEq, Int.reduceEq, Nat.reduceLT, Nat.reduceLeDiff, Nat.reduceAdd, Nat.reduceMul, Nat.reduceSub, Int.reduceToNat, Int.reduceLT, Int.reduceLE, Int.reduceAdd, Int.reduceSub, Int.reduceMul, Int.reduceNeg, Nat.reducePow, Int.reducePow, hP, ltT, ltF, leT, leF, eqT, eqF, hops, Option.getD_none, Option.getD_some, Option.isSome_none, Option.isSome_some]
  refine ⟨_, Cell.at 0 rfl (show (Ord.cells _)[0]? = _ from rfl), _, Cell.at 0 rfl (show (Ord.cells _)[1]? = _ from rfl), _, Cell.at 0 rfl (show (Ord.cells _)[2]? = _ from rfl), _, Cell.at 0 rfl (show (Ord.cells _)[3]? = _ from rfl), _, Cell.at 0 rfl (show (Ord.cells _)[4]? = _ from rfl), _, Cell.at 0 rfl (show (Ord.cells _)[5]? = _ from rfl), ?_⟩
  try with_reducible refine stI ?_
  try simp (maxSteps := 1000000) (dsimp := false) (disch := omega) only [go_sem, add_addS, ia_someH, wu8, wu16, w32, wu32, wu64, w64, Nat.reduceEqDiff, Nat.reduceBEq, ↓reduceIte, reduceCtorEq, Int.reduceEq, Nat.reduceLT, Nat.reduceLeDiff, Nat.reduceAdd, Nat.reduceMul, Nat.reduceSub, Int.reduceToNat, Int.reduceLT, Int.reduceLE, Int.reduceAdd, Int.reduceSub, Int.reduceMul, Int.reduceNeg, Nat.reducePow, Int.reducePow, hP, ltT, ltF, leT, leF, eqT, eqF, hops, Option.getD_none, Option.getD_some, Option.isSome_none, Option.isSome_some]
  refine SCall.mono (Encode_spec (o := o) hP ho) ?_
  rintro v_ L_ ⟨hv_, hL_⟩
  rw [hv_, hL_]
  clear hv_ hL_ v_ L_
  rcases he : encode o with _ | w
  · skip
    try with_reducible refine stI ?_
    have hpn : print o = none := by unfold print; rw [he]
    try with_reducible refine stI ?_
    try simp (maxSteps := 1000000) (dsimp := false) (disch := omega) only [go_sem, add_addS, ia_someH, wu8, wu16, w32, wu32, wu64, w64, Nat.reduceEqDiff, Nat.reduceBEq, ↓reduceIte, reduceCtorEq, Int.reduceEq, Nat.reduceLT, Nat.reduceLeDiff, Nat.reduceAdd, Nat.reduceMul, Nat.reduceSub, Int.reduceToNat, Int.reduceLT, Int.reduceLE, Int.reduceAdd, Int.reduceSub, Int.reduceMul, Int.reduceNeg, Nat.reducePow, Int.reducePow, hP, ltT, ltF, leT, leF, eqT, eqF, hops, Option.getD_none, Option.getD_some, Option.isSome_none, Option.isSome_some]
    refine hK3 _ _ ?_
    try clear hK3 K3
    refine SX.live [1, 3, 4, 5] (fun T1 hT1 => ?_)
    simp only [forall_mem_cons', forall_mem_nil', go_sem, add_addS, ia_someH, wu8, wu16, w32, wu32, wu64, w64, Nat.reduceEqDiff, Nat.reduceBEq, ↓reduceIte, reduceCtorEq, Int.reduceEq, Nat.reduceLT, Nat.reduceLeDiff, Nat.reduceAdd, Nat.reduceMul, Nat.reduceSub, Int.reduceToNat, Int.reduceLT, Int.reduceLE, Int.reduceAdd, Int.reduceSub, Int.reduceMul, Int.reduceNeg, Nat.reducePow, Int.reducePow, hP, ltT, ltF, leT, leF, eqT, eqF] at hT1
    obtain ⟨h1_1, h1_3, h1_4, h1_5⟩ := hT1
    refine SX.seq_k fun K4 hK4 => ?_
    refine SX.region_d [some 19, some 20, some 18, some 21, some 22, some 6, some 7] rfl (fun ops hops => ?_)
    unfold Dsts at hops
    simp (maxSteps := 1000000) (dsimp := false) (disch := omega) only [go_sem, add_addS, ia_someH, wu8, wu16, w32, wu32, wu64, w64, Nat.reduceEqDiff, Nat.reduceBEq, ↓reduceIte, reduceCtorEq, Int.reduceEq, Nat.reduceLT, Nat.reduceLeDiff, Nat.reduceAdd, Nat.reduceMul, Nat.reduceSub, Int.reduceToNat, Int.reduceLT, Int.reduceLE, Int.reduceAdd, Int.reduceSub, Int.reduceMul, Int.reduceNeg, Nat.reducePow, Int.reducePow, hP, h1_1, h1_3, h1_4, h1_5, ltT, ltF, leT, leF, eqT, eqF, hops]
    refine ⟨_, Cell.at 0 rfl (show (Ord.cells _)[0]? = _ from rfl), _, Cell.at 0 rfl (show (Ord.cells _)[1]? = _ from rfl), _, Cell.at 0 rfl (show (Ord.cells _)[2]? = _ from rfl), _, Cell.at 0 rfl (show (Ord.cells _)[3]? = _ from rfl), _, Cell.at 0 rfl (show (Ord.cells _)[4]? = _ from rfl), _, Cell.at 0 rfl (show (Ord.cells _)[5]? = _ from rfl), ?_⟩
    try with_reducible refine stI ?_
    try simp (maxSteps := 1000000) (dsimp := false) (disch := omega) only [go_sem, add_addS, ia_someH, wu8, wu16, w32, wu32, wu64, w64, Nat.reduceEqDiff, Nat.reduceBEq, ↓reduceIte, reduceCtorEq, Int.reduceEq, Nat.reduceLT, Nat.reduceLeDiff, Nat.reduceAdd, Nat.reduceMul, Nat.reduceSub, Int.reduceToNat, Int.reduceLT, Int.reduceLE, Int.reduceAdd, Int.reduceSub, Int.reduceMul, Int.reduceNeg, Nat.reducePow, Int.reducePow, hP, h1_1, h1_3, h1_4, h1_5, ltT, ltF, leT, leF, eqT, eqF, hops]
    refine SCall.mono (Print_spec (o := o) hP ho) ?_
    rintro v_ L_ ⟨hv_, hL_⟩
    rw [hv_, hL_]
    clear hv_ hL_ v_ L_
    unfold printR
    rw [hpn]
    dsimp only
    try with_reducible refine stI ?_
    try simp (maxSteps := 1000000) (dsimp := false) (disch := omega) only [go_sem, add_addS, ia_someH, wu8, wu16, w32, wu32, wu64, w64, Nat.reduceEqDiff, Nat.reduceBEq, ↓reduceIte, reduceCtorEq, Int.reduceEq, Nat.reduceLT, Nat.reduceLeDiff, Nat.reduceAdd, Nat.reduceMul, Nat.reduceSub, Int.reduceToNat, Int.reduceLT, Int.reduceLE, Int.reduceAdd, Int.reduceSub, Int.reduceMul, Int.reduceNeg, Nat.reducePow, Int.reducePow, hP, h1_1, h1_3, h1_4, h1_5, ltT, ltF, leT, leF, eqT, eqF, hops]
    refine hK4 _ _ ?_
    try clear hK4 K4
    refine SX.seq_k fun K5 hK5 => ?_
    refine SX.seq_k fun K6 hK6 => ?_
    refine SX.region_d [some 23, some 24, some 25, some 26, some 27, some 28] rfl (fun ops hops => ?_)
    unfold Dsts at hops
    simp (maxSteps := 1000000) (dsimp := false) (disch := omega) only [go_sem, add_addS, ia_someH, wu8, wu16, w32, wu32, wu64, w64, Nat.reduceEqDiff, Nat.reduceBEq, ↓reduceIte, reduceCtorEq, Int.reduceEq, Nat.reduceLT, Nat.reduceLeDiff, Nat.reduceAdd, Nat.reduceMul, Nat.reduceSub, Int.reduceToNat, Int.reduceLT, Int.reduceLE, Int.reduceAdd, Int.reduceSub, Int.reduceMul, Int.reduceNeg, Nat.reducePow, Int.reducePow, hP, h1_1, h1_3, h1_4, h1_5, ltT, ltF, leT, leF, eqT, eqF, hops]
    repeat' ((first | refine And.intro (by omega) ?_ | fail); try (with_reducible refine stI ?_); try simp (maxSteps := 1000000) (dsimp := false) (disch := omega) only [go_sem, add_addS, ia_someH, wu8, wu16, w32, wu32, wu64, w64, Nat.reduceEqDiff, Nat.reduceBEq, ↓reduceIte, reduceCtorEq, Int.reduceEq, Nat.reduceLT, Nat.reduceLeDiff, Nat.reduceAdd, Nat.reduceMul, Nat.reduceSub, Int.reduceToNat, Int.reduceLT, Int.reduceLE, Int.reduceAdd, Int.reduceSub, Int.reduceMul, Int.reduceNeg, Nat.reducePow, Int.reducePow, hP, h1_1, h1_3, h1_4, h1_5, ltT, ltF, leT, leF, eqT, eqF, hops])
    refine hK6 _ _ ?_
    try clear hK6 K6
    refine SX.live [1, 3, 4, 5, 6, 7, 28] (fun T2 hT2 => ?_)
    simp only [forall_mem_cons', forall_mem_nil', go_sem, add_addS, ia_someH, wu8, wu16, w32, wu32, wu64, w64, Nat.reduceEqDiff, Nat.reduceBEq, ↓reduceIte, reduceCtorEq, Int.reduceEq, Nat.reduceLT, Nat.reduceLeDiff, Nat.reduceAdd, Nat.reduceMul, Nat.reduceSub, Int.reduceToNat, Int.reduceLT, Int.reduceLE, Int.reduceAdd, Int.reduceSub, Int.reduceMul, Int.reduceNeg, Nat.reducePow, Int.reducePow, hP, h1_1, h1_3, h1_4, h1_5, ltT, ltF, leT, leF, eqT, eqF] at hT2
    obtain ⟨h2_1, h2_3, h2_4, h2_5, h2_6, h2_7, h2_28⟩ := hT2
    clear h1_1 h1_3 h1_4 h1_5 T1
    refine SX.cond_k fun X7 Y7 hX7 hY7 => ?_
    simp (maxSteps := 1000000) (dsimp := false) (disch := omega) only [go_sem, add_addS, ia_someH, wu8, wu16, w32, wu32, wu64, w64, Nat.reduceEqDiff, Nat.reduceBEq, ↓reduceIte, reduceCtorEq, Int.reduceEq, Nat.reduceLT, Nat.reduceLeDiff, Nat.reduceAdd, Nat.reduceMul, Nat.reduceSub, Int.reduceToNat, Int.reduceLT, Int.reduceLE, Int.reduceAdd, Int.reduceSub, Int.reduceMul, Int.reduceNeg, Nat.reducePow, Int.reducePow, hP, h2_1, h2_3, h2_4, h2_5, h2_6, h2_7, h2_28, ltT, ltF, leT, leF, eqT, eqF, condVC]
    refine hX7 ?_
    clear hX7 hY7 X7 Y7
    refine SX.seq_k fun K8 hK8 => ?_
    refine SX.region_d [some 29, some 30, some 31, some 32, some 33, some 34, some 35, some 36, some 37, some 38, some 39, some 40, some 41, some 42, some 43, some 44, some 45, some 46, some 2] rfl (fun ops hops => ?_)
    unfold Dsts at hops
    simp (maxSteps := 1000000) (dsimp := false) (disch := omega) only [go_sem, add_addS, ia_someH, wu8, wu16, w32, wu32, wu64, w64, Nat.reduceEqDiff, Nat.reduceBEq, ↓reduceIte, reduceCtorEq, Int.reduceEq, Nat.reduceLT, Nat.reduceLeDiff, Nat.reduceAdd, Nat.reduceMul, Nat.reduceSub, Int.reduceToNat, Int.reduceLT, Int.reduceLE, Int.reduceAdd, Int.reduceSub, Int.reduceMul, Int.reduceNeg, Nat.reducePow, Int.reducePow, hP, h2_1, h2_3, h2_4, h2_5, h2_6, h2_7, h2_28, ltT, ltF, leT, leF, eqT, eqF, hops]
    repeat' ((first | refine And.intro (by omega) ?_ | fail); try (with_reducible refine stI ?_); try simp (maxSteps := 1000000) (dsimp := false) (disch := omega) only [go_sem, add_addS, ia_someH, wu8, wu16, w32, wu32, wu64, w64, Nat.reduceEqDiff, Nat.reduceBEq, ↓reduceIte, reduceCtorEq, Int.reduceEq, Nat.reduceLT, Nat.reduceLeDiff, Nat.reduceAdd, Nat.reduceMul, Nat.reduceSub, Int.reduceToNat, Int.reduceLT, Int.reduceLE, Int.reduceAdd, Int.reduceSub, Int.reduceMul, Int.reduceNeg, Nat.reducePow, Int.reducePow, hP, h2_1, h2_3, h2_4, h2_5, h2_6, h2_7, h2_28, ltT, ltF, leT, leF, eqT, eqF, hops])
    refine hK8 _ _ ?_
    try clear hK8 K8
    refine SX.ret ?_
    simp only [andThen_normal, andThen_ret, andThen_exit, inBlk_normal, inBlk_ret, inBlk_exit, Nat.reduceEqDiff, if_true, if_false, ↓reduceIte, retQ_ret]
    try simp only [res0, res1, res2, res3, stK_e, go_sem, add_addS, ia_someH, wu8, wu16, w32, wu32, wu64, w64, Nat.reduceEqDiff, Nat.reduceBEq, ↓reduceIte, reduceCtorEq, Int.reduceEq, Nat.reduceLT, Nat.reduceLeDiff, Nat.reduceAdd, Nat.reduceMul, Nat.reduceSub, Int.reduceToNat, Int.reduceLT, Int.reduceLE, Int.reduceAdd, Int.reduceSub, Int.reduceMul, Int.reduceNeg, Nat.reducePow, Int.reducePow, hP, h2_1, h2_3, h2_4, h2_5, h2_6, h2_7, h2_28, ltT, ltF, leT, leF, eqT, eqF]
    exact ⟨_, L, (by first | exact Less.refl _ | exact Less.drop _ _ | exact Less.drops (Less.drop _ _) | exact Less.drops (Less.drops (Less.drop _ _)) | exact Less.drops (Less.drops (Less.drops (Less.drop _ _))) | exact Less.drops (Less.drops (Less.drops (Less.drops (Less.drop _ _))))), rfl, rfl, rfl⟩
  · skip
    try with_reducible refine stI ?_
    obtain ⟨s, hpr, hps, hsz⟩ := parse_print he
    obtain ⟨hdec, hw⟩ := encode_some he
    try with_reducible refine stI ?_
    try simp (maxSteps := 1000000) (dsimp := false) (disch := omega) only [go_sem, add_addS, ia_someH, wu8, wu16, w32, wu32, wu64, w64, Nat.reduceEqDiff, Nat.reduceBEq, ↓reduceIte, reduceCtorEq, Int.reduceEq, Nat.reduceLT, Nat.reduceLeDiff, Nat.reduceAdd, Nat.reduceMul, Nat.reduceSub, Int.reduceToNat, Int.reduceLT, Int.reduceLE, Int.reduceAdd, Int.reduceSub, Int.reduceMul, Int.reduceNeg, Nat.reducePow, Int.reducePow, hP, ltT, ltF, leT, leF, eqT, eqF, hops, Option.getD_none, Option.getD_some, Option.isSome_none, Option.isSome_some]
    refine hK3 _ _ ?_
    try clear hK3 K3
    refine SX.live [1, 3, 4, 5] (fun T3 hT3 => ?_)
    simp only [forall_mem_cons', forall_mem_nil', go_sem, add_addS, ia_someH, wu8, wu16, w32, wu32, wu64, w64, Nat.reduceEqDiff, Nat.reduceBEq, ↓reduceIte, reduceCtorEq, Int.reduceEq, Nat.reduceLT, Nat.reduceLeDiff, Nat.reduceAdd, Nat.reduceMul, Nat.reduceSub, Int.reduceToNat, Int.reduceLT, Int.reduceLE, Int.reduceAdd, Int.reduceSub, Int.reduceMul, Int.reduceNeg, Nat.reducePow, Int.reducePow, hP, ltT, ltF, leT, leF, eqT, eqF] at hT3
    obtain ⟨h3_1, h3_3, h3_4, h3_5⟩ := hT3
    refine SX.seq_k fun K9 hK9 => ?_
    refine SX.region_d [some 19, some 20, some 18, some 21, some 22, some 6, some 7] rfl (fun ops hops => ?_)
    unfold Dsts at hops
    simp (maxSteps := 1000000) (dsimp := false) (disch := omega) only [go_sem, add_addS, ia_someH, wu8, wu16, w32, wu32, wu64, w64, Nat.reduceEqDiff, Nat.reduceBEq, ↓reduceIte, reduceCtorEq, Int.reduceEq, Nat.reduceLT, Nat.reduceLeDiff, Nat.reduceAdd, Nat.reduceMul, Nat.reduceSub, Int.reduceToNat, Int.reduceLT, Int.reduceLE, Int.reduceAdd, Int.reduceSub, Int.reduceMul, Int.reduceNeg, Nat.reducePow, Int.reducePow, hP, h3_1, h3_3, h3_4, h3_5, ltT, ltF, leT, leF, eqT, eqF, hops]
    refine ⟨_, Cell.at 0 rfl (show (Ord.cells _)[0]? = _ from rfl), _, Cell.at 0 rfl (show (Ord.cells _)[1]? = _ from rfl), _, Cell.at 0 rfl (show (Ord.cells _)[2]? = _ from rfl), _, Cell.at 0 rfl (show (Ord.cells _)[3]? = _ from rfl), _, Cell.at 0 rfl (show (Ord.cells _)[4]? = _ from rfl), _, Cell.at 0 rfl (show (Ord.cells _)[5]? = _ from rfl), ?_⟩
    try with_reducible refine stI ?_
    try simp (maxSteps := 1000000) (dsimp := false) (disch := omega) only [go_sem, add_addS, ia_someH, wu8, wu16, w32, wu32, wu64, w64, Nat.reduceEqDiff, Nat.reduceBEq, ↓reduceIte, reduceCtorEq, Int.reduceEq, Nat.reduceLT, Nat.reduceLeDiff, Nat.reduceAdd, Nat.reduceMul, Nat.reduceSub, Int.reduceToNat, Int.reduceLT, Int.reduceLE, Int.reduceAdd, Int.reduceSub, Int.reduceMul, Int.reduceNeg, Nat.reducePow, Int.reducePow, hP, h3_1, h3_3, h3_4, h3_5, ltT, ltF, leT, leF, eqT, eqF, hops]
    refine SCall.mono (Print_spec (o := o) hP ho) ?_
    rintro v_ L_ ⟨hv_, hL_⟩
    rw [hv_, hL_]
    clear hv_ hL_ v_ L_
    unfold printR
    rw [hpr]
    dsimp only
    try with_reducible refine stI ?_
    try simp (maxSteps := 1000000) (dsimp := false) (disch := omega) only [go_sem, add_addS, ia_someH, wu8, wu16, w32, wu32, wu64, w64, Nat.reduceEqDiff, Nat.reduceBEq, ↓reduceIte, reduceCtorEq, Int.reduceEq, Nat.reduceLT, Nat.reduceLeDiff, Nat.reduceAdd, Nat.reduceMul, Nat.reduceSub, Int.reduceToNat, Int.reduceLT, Int.reduceLE, Int.reduceAdd, Int.reduceSub, Int.reduceMul, Int.reduceNeg, Nat.reducePow, Int.reducePow, hP, h3_1, h3_3, h3_4, h3_5, ltT, ltF, leT, leF, eqT, eqF, hops]
    refine hK9 _ _ ?_
    try clear hK9 K9
    refine SX.seq_k fun K10 hK10 => ?_
    refine SX.seq_k fun K11 hK11 => ?_
    refine SX.region_d [some 23, some 24, some 25, some 26, some 27, some 28] rfl (fun ops hops => ?_)
    unfold Dsts at hops
    simp (maxSteps := 1000000) (dsimp := false) (disch := omega) only [go_sem, add_addS, ia_someH, wu8, wu16, w32, wu32, wu64, w64, Nat.reduceEqDiff, Nat.reduceBEq, ↓reduceIte, reduceCtorEq, Int.reduceEq, Nat.reduceLT, Nat.reduceLeDiff, Nat.reduceAdd, Nat.reduceMul, Nat.reduceSub, Int.reduceToNat, Int.reduceLT, Int.reduceLE, Int.reduceAdd, Int.reduceSub, Int.reduceMul, Int.reduceNeg, Nat.reducePow, Int.reducePow, hP, h3_1, h3_3, h3_4, h3_5, ltT, ltF, leT, leF, eqT, eqF, hops]
    repeat' ((first | refine And.intro (by omega) ?_ | fail); try (with_reducible refine stI ?_); try simp (maxSteps := 1000000) (dsimp := false) (disch := omega) only [go_sem, add_addS, ia_someH, wu8, wu16, w32, wu32, wu64, w64, Nat.reduceEqDiff, Nat.reduceBEq, ↓reduceIte, reduceCtorEq, Int.reduceEq, Nat.reduceLT, Nat.reduceLeDiff, Nat.reduceAdd, Nat.reduceMul, Nat.reduceSub, Int.reduceToNat, Int.reduceLT, Int.reduceLE, Int.reduceAdd, Int.reduceSub, Int.reduceMul, Int.reduceNeg, Nat.reducePow, Int.reducePow, hP, h3_1, h3_3, h3_4, h3_5, ltT, ltF, leT, leF, eqT, eqF, hops])
    refine hK11 _ _ ?_
    try clear hK11 K11
    refine SX.live [1, 3, 4, 5, 6, 7, 28] (fun T4 hT4 => ?_)
    simp only [forall_mem_cons', forall_mem_nil', go_sem, add_addS, ia_someH, wu8, wu16, w32, wu32, wu64, w64, Nat.reduceEqDiff, Nat.reduceBEq, ↓reduceIte, reduceCtorEq, Int.reduceEq, Nat.reduceLT, Nat.reduceLeDiff, Nat.reduceAdd, Nat.reduceMul, Nat.reduceSub, Int.reduceToNat, Int.reduceLT, Int.reduceLE, Int.reduceAdd, Int.reduceSub, Int.reduceMul, Int.reduceNeg, Nat.reducePow, Int.reducePow, hP, h3_1, h3_3, h3_4, h3_5, ltT, ltF, leT, leF, eqT, eqF] at hT4
    obtain ⟨h4_1, h4_3, h4_4, h4_5, h4_6, h4_7, h4_28⟩ := hT4
    clear h3_1 h3_3 h3_4 h3_5 T3
    refine SX.cond_k fun X12 Y12 hX12 hY12 => ?_
    simp (maxSteps := 1000000) (dsimp := false) (disch := omega) only [go_sem, add_addS, ia_someH, wu8, wu16, w32, wu32, wu64, w64, Nat.reduceEqDiff, Nat.reduceBEq, ↓reduceIte, reduceCtorEq, Int.reduceEq, Nat.reduceLT, Nat.reduceLeDiff, Nat.reduceAdd, Nat.reduceMul, Nat.reduceSub, Int.reduceToNat, Int.reduceLT, Int.reduceLE, Int.reduceAdd, Int.reduceSub, Int.reduceMul, Int.reduceNeg, Nat.reducePow, Int.reducePow, hP, h4_1, h4_3, h4_4, h4_5, h4_6, h4_7, h4_28, ltT, ltF, leT, leF, eqT, eqF, condVC]
    refine hY12 ?_
    clear hX12 hY12 X12 Y12
    refine SX.skip ?_
    try simp only [andThen_normal, andThen_ret, andThen_exit, inBlk_normal, inBlk_ret, inBlk_exit, Nat.reduceEqDiff, if_true, if_false, ↓reduceIte]
    refine hK10 _ _ ?_
    try clear hK10 K10
    refine SX.seq_k fun K13 hK13 => ?_
    refine SX.region_d [some 48, some 49, some 47, some 50, some 51, some 8, none, some 9] rfl (fun ops hops => ?_)
    unfold Dsts at hops
    simp (maxSteps := 1000000) (dsimp := false) (disch := omega) only [go_sem, add_addS, ia_someH, wu8, wu16, w32, wu32, wu64, w64, Nat.reduceEqDiff, Nat.reduceBEq, ↓reduceIte, reduceCtorEq, Int.reduceEq, Nat.reduceLT, Nat.reduceLeDiff, Nat.reduceAdd, Nat.reduceMul, Nat.reduceSub, Int.reduceToNat, Int.reduceLT, Int.reduceLE, Int.reduceAdd, Int.reduceSub, Int.reduceMul, Int.reduceNeg, Nat.reducePow, Int.reducePow, hP, h4_1, h4_3, h4_4, h4_5, h4_6, h4_7, h4_28, ltT, ltF, leT, leF, eqT, eqF, hops, Ord.cells]
    refine SCall.mono (Decode_spec hP hw) ?_
    rintro v_ L_ h_
    rw [decodeR, hdec] at h_
    obtain ⟨hv_, hL_⟩ := h_
    rw [hv_, hL_]
    clear hv_ hL_ v_ L_
    try with_reducible refine stI ?_
    try simp (maxSteps := 1000000) (dsimp := false) (disch := omega) only [go_sem, add_addS, ia_someH, wu8, wu16, w32, wu32, wu64, w64, Nat.reduceEqDiff, Nat.reduceBEq, ↓reduceIte, reduceCtorEq, Int.reduceEq, Nat.reduceLT, Nat.reduceLeDiff, Nat.reduceAdd, Nat.reduceMul, Nat.reduceSub, Int.reduceToNat, Int.reduceLT, Int.reduceLE, Int.reduceAdd, Int.reduceSub, Int.reduceMul, Int.reduceNeg, Nat.reducePow, Int.reducePow, hP, h4_1, h4_3, h4_4, h4_5, h4_6, h4_7, h4_28, ltT, ltF, leT, leF, eqT, eqF, hops, Ord.cells]
    intro g6
    try with_reducible refine stI ?_
    try simp (maxSteps := 1000000) (dsimp := false) (disch := omega) only [go_sem, add_addS, ia_someH, wu8, wu16, w32, wu32, wu64, w64, Nat.reduceEqDiff, Nat.reduceBEq, ↓reduceIte, reduceCtorEq, Int.reduceEq, Nat.reduceLT, Nat.reduceLeDiff, Nat.reduceAdd, Nat.reduceMul, Nat.reduceSub, Int.reduceToNat, Int.reduceLT, Int.reduceLE, Int.reduceAdd, Int.reduceSub, Int.reduceMul, Int.reduceNeg, Nat.reducePow, Int.reducePow, hP, h4_1, h4_3, h4_4, h4_5, h4_6, h4_7, h4_28, ltT, ltF, leT, leF, eqT, eqF, hops, Ord.cells]
    refine ⟨0, _, _, _, rfl, by simp [Ord.cells], .inr (by decide), ?_⟩
    try with_reducible refine stI ?_
    try simp (maxSteps := 1000000) (dsimp := false) (disch := omega) only [go_sem, add_addS, ia_someH, wu8, wu16, w32, wu32, wu64, w64, Nat.reduceEqDiff, Nat.reduceBEq, ↓reduceIte, reduceCtorEq, Int.reduceEq, Nat.reduceLT, Nat.reduceLeDiff, Nat.reduceAdd, Nat.reduceMul, Nat.reduceSub, Int.reduceToNat, Int.reduceLT, Int.reduceLE, Int.reduceAdd, Int.reduceSub, Int.reduceMul, Int.reduceNeg, Nat.reducePow, Int.reducePow, hP, h4_1, h4_3, h4_4, h4_5, h4_6, h4_7, h4_28, ltT, ltF, leT, leF, eqT, eqF, hops, Ord.cells]
    refine hK13 _ _ ?_
    try clear hK13 K13
    refine SX.seq_k fun K14 hK14 => ?_
    refine SX.region_d [some 53, some 54, some 52, some 55, some 56, some 10, none, some 11] rfl (fun ops hops => ?_)
    unfold Dsts at hops
    simp (maxSteps := 1000000) (dsimp := false) (disch := omega) only [go_sem, add_addS, ia_someH, wu8, wu16, w32, wu32, wu64, w64, Nat.reduceEqDiff, Nat.reduceBEq, ↓reduceIte, reduceCtorEq, Int.reduceEq, Nat.reduceLT, Nat.reduceLeDiff, Nat.reduceAdd, Nat.reduceMul, Nat.reduceSub, Int.reduceToNat, Int.reduceLT, Int.reduceLE, Int.reduceAdd, Int.reduceSub, Int.reduceMul, Int.reduceNeg, Nat.reducePow, Int.reducePow, hP, h4_1, h4_3, h4_4, h4_5, h4_6, h4_7, h4_28, ltT, ltF, leT, leF, eqT, eqF, hops, Ord.cells]
    refine SCall.mono (Parse_spec (s := s) hP hM (by omega)) ?_
    rintro v_ L_ ⟨hv_, hL_⟩
    rw [hv_, hL_]
    clear hv_ hL_ v_ L_
    unfold parseR
    rw [hps]
    dsimp only
    try with_reducible refine stI ?_
    try simp (maxSteps := 1000000) (dsimp := false) (disch := omega) only [go_sem, add_addS, ia_someH, wu8, wu16, w32, wu32, wu64, w64, Nat.reduceEqDiff, Nat.reduceBEq, ↓reduceIte, reduceCtorEq, Int.reduceEq, Nat.reduceLT, Nat.reduceLeDiff, Nat.reduceAdd, Nat.reduceMul, Nat.reduceSub, Int.reduceToNat, Int.reduceLT, Int.reduceLE, Int.reduceAdd, Int.reduceSub, Int.reduceMul, Int.reduceNeg, Nat.reducePow, Int.reducePow, hP, h4_1, h4_3, h4_4, h4_5, h4_6, h4_7, h4_28, ltT, ltF, leT, leF, eqT, eqF, hops, Ord.cells]
    intro g7
    try with_reducible refine stI ?_
    try simp (maxSteps := 1000000) (dsimp := false) (disch := omega) only [go_sem, add_addS, ia_someH, wu8, wu16, w32, wu32, wu64, w64, Nat.reduceEqDiff, Nat.reduceBEq, ↓reduceIte, reduceCtorEq, Int.reduceEq, Nat.reduceLT, Nat.reduceLeDiff, Nat.reduceAdd, Nat.reduceMul, Nat.reduceSub, Int.reduceToNat, Int.reduceLT, Int.reduceLE, Int.reduceAdd, Int.reduceSub, Int.reduceMul, Int.reduceNeg, Nat.reducePow, Int.reducePow, hP, h4_1, h4_3, h4_4, h4_5, h4_6, h4_7, h4_28, ltT, ltF, leT, leF, eqT, eqF, hops, Ord.cells]
    refine ⟨0, _, _, _, rfl, by simp [Ord.cells], .inr (by decide), ?_⟩
    try with_reducible refine stI ?_
    try simp (maxSteps := 1000000) (dsimp := false) (disch := omega) only [go_sem, add_addS, ia_someH, wu8, wu16, w32, wu32, wu64, w64, Nat.reduceEqDiff, Nat.reduceBEq, ↓reduceIte, reduceCtorEq, Int.reduceEq, Nat.reduceLT, Nat.reduceLeDiff, Nat.reduceAdd, Nat.reduceMul, Nat.reduceSub, Int.reduceToNat, Int.reduceLT, Int.reduceLE, Int.reduceAdd, Int.reduceSub, Int.reduceMul, Int.reduceNeg, Nat.reducePow, Int.reducePow, hP, h4_1, h4_3, h4_4, h4_5, h4_6, h4_7, h4_28, ltT, ltF, leT, leF, eqT, eqF, hops, Ord.cells]
    refine hK14 _ _ ?_
    try clear hK14 K14
    refine SX.live [1, 7, 8, 9, 10, 11] (fun T5 hT5 => ?_)
    simp only [forall_mem_cons', forall_mem_nil', go_sem, add_addS, ia_someH, wu8, wu16, w32, wu32, wu64, w64, Nat.reduceEqDiff, Nat.reduceBEq, ↓reduceIte, reduceCtorEq, Int.reduceEq, Nat.reduceLT, Nat.reduceLeDiff, Nat.reduceAdd, Nat.reduceMul, Nat.reduceSub, Int.reduceToNat, Int.reduceLT, Int.reduceLE, Int.reduceAdd, Int.reduceSub, Int.reduceMul, Int.reduceNeg, Nat.reducePow, Int.reducePow, hP, h4_1, h4_3, h4_4, h4_5, h4_6, h4_7, h4_28, ltT, ltF, leT, leF, eqT, eqF] at hT5
    obtain ⟨h5_1, h5_7, h5_8, h5_9, h5_10, h5_11⟩ := hT5
    clear h4_1 h4_3 h4_4 h4_5 h4_6 h4_7 h4_28 T4
    refine SX.seq_k fun K15 hK15 => ?_
    have k1 := ho.op; have k2 := ho.x; have k3 := ho.y; have k4 := ho.n; have k5 := ho.b; have k6 := ho.a
    refine SX.region_d [some 57, some 58, some 59, some 60, some 61, some 62, some 63, some 64, some 65, some 66, some 67, some 68, some 69, some 70, some 71, some 72, some 73, some 74, some 75, some 2] rfl (fun ops hops => ?_)
    unfold Dsts at hops
    simp (maxSteps := 1000000) (dsimp := false) (disch := omega) only [go_sem, add_addS, ia_someH, wu8, wu16, w32, wu32, wu64, w64, Nat.reduceEqDiff, Nat.reduceBEq, ↓reduceIte, reduceCtorEq, Int.reduceEq, Nat.reduceLT, Nat.reduceLeDiff, Nat.reduceAdd, Nat.reduceMul, Nat.reduceSub, Int.reduceToNat, Int.reduceLT, Int.reduceLE, Int.reduceAdd, Int.reduceSub, Int.reduceMul, Int.reduceNeg, Nat.reducePow, Int.reducePow, hP, h5_1, h5_7, h5_8, h5_9, h5_10, h5_11, ltT, ltF, leT, leF, eqT, eqF, hops]
    repeat' ((first | (refine ⟨_, Cell.at 1 rfl (show (Ord.cells _)[0]? = _ from rfl), _, Cell.at 1 rfl (show (Ord.cells _)[1]? = _ from rfl), _, Cell.at 1 rfl (show (Ord.cells _)[2]? = _ from rfl), _, Cell.at 1 rfl (show (Ord.cells _)[3]? = _ from rfl), _, Cell.at 1 rfl (show (Ord.cells _)[4]? = _ from rfl), _, Cell.at 1 rfl (show (Ord.cells _)[5]? = _ from rfl), ?_⟩; refine ⟨_, Cell.at 2 rfl (show (Ord.cells _)[0]? = _ from rfl), _, Cell.at 2 rfl (show (Ord.cells _)[1]? = _ from rfl), _, Cell.at 2 rfl (show (Ord.cells _)[2]? = _ from rfl), _, Cell.at 2 rfl (show (Ord.cells _)[3]? = _ from rfl), _, Cell.at 2 rfl (show (Ord.cells _)[4]? = _ from rfl), _, Cell.at 2 rfl (show (Ord.cells _)[5]? = _ from rfl), ?_⟩) | (refine ⟨_, Cell.at 0 rfl (show (Ord.cells _)[0]? = _ from rfl), _, Cell.at 0 rfl (show (Ord.cells _)[1]? = _ from rfl), _, Cell.at 0 rfl (show (Ord.cells _)[2]? = _ from rfl), _, Cell.at 0 rfl (show (Ord.cells _)[3]? = _ from rfl), _, Cell.at 0 rfl (show (Ord.cells _)[4]? = _ from rfl), _, Cell.at 0 rfl (show (Ord.cells _)[5]? = _ from rfl), ?_⟩; refine ⟨_, Cell.at 2 rfl (show (Ord.cells _)[0]? = _ from rfl), _, Cell.at 2 rfl (show (Ord.cells _)[1]? = _ from rfl), _, Cell.at 2 rfl (show (Ord.cells _)[2]? = _ from rfl), _, Cell.at 2 rfl (show (Ord.cells _)[3]? = _ from rfl), _, Cell.at 2 rfl (show (Ord.cells _)[4]? = _ from rfl), _, Cell.at 2 rfl (show (Ord.cells _)[5]? = _ from rfl), ?_⟩) | (refine aggEq_of eqT_25 (by simp only [okVs, okV, wf_i64, wf_u8, wf_u16, Bool.and_eq_true, decide_eq_true_eq, decide_true, true_and, and_true, Bool.and_true, Bool.true_and, and_self]; try omega) (by simp only [okVs, okV, wf_i64, wf_u8, wf_u16, Bool.and_eq_true, decide_eq_true_eq, decide_true, true_and, and_true, Bool.and_true, Bool.true_and, and_self]; try omega) (fun r hr => ?_); simp only [litV, List.map_cons, List.map_nil, List.cons.injEq, Lit.int.injEq, Lit.bool.injEq, Lit.string.injEq, true_and, and_true, and_self, iff_true, eq_self] at hr; first | (obtain rfl := hr) | (obtain rfl : r = true := hr.2 (by simp))) | refine ⟨_, Cell.at 0 rfl rfl, ?_⟩ | refine ⟨_, Cell.at 1 rfl rfl, ?_⟩ | refine ⟨_, Cell.at 2 rfl rfl, ?_⟩ | refine ⟨_, Cell.at 3 rfl rfl, ?_⟩ | refine And.intro (by omega) ?_ | fail); try (with_reducible refine stI ?_); try simp (maxSteps := 1000000) (dsimp := false) (disch := omega) only [go_sem, add_addS, ia_someH, wu8, wu16, w32, wu32, wu64, w64, Nat.reduceEqDiff, Nat.reduceBEq, ↓reduceIte, reduceCtorEq, Int.reduceEq, Nat.reduceLT, Nat.reduceLeDiff, Nat.reduceAdd, Nat.reduceMul, Nat.reduceSub, Int.reduceToNat, Int.reduceLT, Int.reduceLE, Int.reduceAdd, Int.reduceSub, Int.reduceMul, Int.reduceNeg, Nat.reducePow, Int.reducePow, hP, h5_1, h5_7, h5_8, h5_9, h5_10, h5_11, ltT, ltF, leT, leF, eqT, eqF, hops])
    refine hK15 _ _ ?_
    try clear hK15 K15
    refine SX.ret ?_
    simp only [andThen_normal, andThen_ret, andThen_exit, inBlk_normal, inBlk_ret, inBlk_exit, Nat.reduceEqDiff, if_true, if_false, ↓reduceIte, retQ_ret]
    try simp only [res0, res1, res2, res3, stK_e, go_sem, add_addS, ia_someH, wu8, wu16, w32, wu32, wu64, w64, Nat.reduceEqDiff, Nat.reduceBEq, ↓reduceIte, reduceCtorEq, Int.reduceEq, Nat.reduceLT, Nat.reduceLeDiff, Nat.reduceAdd, Nat.reduceMul, Nat.reduceSub, Int.reduceToNat, Int.reduceLT, Int.reduceLE, Int.reduceAdd, Int.reduceSub, Int.reduceMul, Int.reduceNeg, Nat.reducePow, Int.reducePow, hP, h5_1, h5_7, h5_8, h5_9, h5_10, h5_11, ltT, ltF, leT, leF, eqT, eqF]
    exact ⟨_, L, (by first | exact Less.refl _ | exact Less.drop _ _ | exact Less.drops (Less.drop _ _) | exact Less.drops (Less.drops (Less.drop _ _)) | exact Less.drops (Less.drops (Less.drops (Less.drop _ _))) | exact Less.drops (Less.drops (Less.drops (Less.drops (Less.drop _ _))))), rfl, rfl, rfl⟩
set_option maxHeartbeats 1000000 in
set_option maxRecDepth 100000 in
theorem OpsLines_spec {Γ : Ctx} (hP : Γ.P = Tryd.prog) {L : Hp} {s : ByteArray} (hM : HasM Γ) :
    SCall Γ 4 #[(.string s)] L (fun v L' => v = .bool true ∧ L' = L) := by
  refine SCall.enter (n := 45) (res1 2) (hP ▸ Tryd.func4) rfl rfl (by simp) (res1_ok rfl) ?_
  refine SX.seq_k fun K1 hK1 => ?_
  refine SX.region_d [some 2] rfl (fun ops hops => ?_)
  unfold Dsts at hops
  simp (maxSteps := 1000000) (dsimp := false) (disch := omega) only [go_sem, add_addS, ia_someH, wu8, wu16, w32, wu32, wu64, w64, Nat.reduceEqDiff, Nat.reduceBEq, ↓reduceIte, reduceCtorEq, Int.reduceEq, Nat.reduceLT, Nat.reduceLeDiff, Nat.reduceAdd, Nat.reduceMul, Nat.reduceSub, Int.reduceToNat, Int.reduceLT, Int.reduceLE, Int.reduceAdd, Int.reduceSub, Int.reduceMul, Int.reduceNeg, Nat.reducePow, Int.reducePow, hP, ltT, ltF, leT, leF, eqT, eqF, hops]
  refine hK1 _ _ ?_
  try clear hK1 K1
  refine SX.seq_k fun K2 hK2 => ?_
  refine SX.region_d [some 8, some 3] rfl (fun ops hops => ?_)
  unfold Dsts at hops
  simp (maxSteps := 1000000) (dsimp := false) (disch := omega) only [go_sem, add_addS, ia_someH, wu8, wu16, w32, wu32, wu64, w64, Nat.reduceEqDiff, Nat.reduceBEq, ↓reduceIte, reduceCtorEq, Int.reduceEq, Nat.reduceLT, Nat.reduceLeDiff, Nat.reduceAdd, Nat.reduceMul, Nat.reduceSub, Int.reduceToNat, Int.reduceLT, Int.reduceLE, Int.reduceAdd, Int.reduceSub, Int.reduceMul, Int.reduceNeg, Nat.reducePow, Int.reducePow, hP, ltT, ltF, leT, leF, eqT, eqF, hops]
  repeat' ((first | (refine SCall.mono (awake_spec hP hM) ?_; rintro v_ L_ ⟨hv_, hL_⟩; rw [hv_, hL_]; clear hv_ hL_ v_ L_) | refine ⟨_, awake_spec hP hM, ?_⟩ | refine ⟨_, fun L0 hl0 => awake_spec hP hM, ?_⟩ | refine And.intro (by omega) ?_ | fail); try (with_reducible refine stI ?_); try simp (maxSteps := 1000000) (dsimp := false) (disch := omega) only [go_sem, add_addS, ia_someH, wu8, wu16, w32, wu32, wu64, w64, Nat.reduceEqDiff, Nat.reduceBEq, ↓reduceIte, reduceCtorEq, Int.reduceEq, Nat.reduceLT, Nat.reduceLeDiff, Nat.reduceAdd, Nat.reduceMul, Nat.reduceSub, Int.reduceToNat, Int.reduceLT, Int.reduceLE, Int.reduceAdd, Int.reduceSub, Int.reduceMul, Int.reduceNeg, Nat.reducePow, Int.reducePow, hP, ltT, ltF, leT, leF, eqT, eqF, hops])
  refine hK2 _ _ ?_
  try clear hK2 K2
  refine SX.seq_k fun K3 hK3 => ?_
  refine SX.seq_k fun K4 hK4 => ?_
  refine SX.region_d [some 9, some 10, some 11] rfl (fun ops hops => ?_)
  unfold Dsts at hops
  simp (maxSteps := 1000000) (dsimp := false) (disch := omega) only [go_sem, add_addS, ia_someH, wu8, wu16, w32, wu32, wu64, w64, Nat.reduceEqDiff, Nat.reduceBEq, ↓reduceIte, reduceCtorEq, Int.reduceEq, Nat.reduceLT, Nat.reduceLeDiff, Nat.reduceAdd, Nat.reduceMul, Nat.reduceSub, Int.reduceToNat, Int.reduceLT, Int.reduceLE, Int.reduceAdd, Int.reduceSub, Int.reduceMul, Int.reduceNeg, Nat.reducePow, Int.reducePow, hP, ltT, ltF, leT, leF, eqT, eqF, hops]
  repeat' ((first | (refine SCall.mono (awake_spec hP hM) ?_; rintro v_ L_ ⟨hv_, hL_⟩; rw [hv_, hL_]; clear hv_ hL_ v_ L_) | refine ⟨_, awake_spec hP hM, ?_⟩ | refine ⟨_, fun L0 hl0 => awake_spec hP hM, ?_⟩ | refine And.intro (by omega) ?_ | fail); try (with_reducible refine stI ?_); try simp (maxSteps := 1000000) (dsimp := false) (disch := omega) only [go_sem, add_addS, ia_someH, wu8, wu16, w32, wu32, wu64, w64, Nat.reduceEqDiff, Nat.reduceBEq, ↓reduceIte, reduceCtorEq, Int.reduceEq, Nat.reduceLT, Nat.reduceLeDiff, Nat.reduceAdd, Nat.reduceMul, Nat.reduceSub, Int.reduceToNat, Int.reduceLT, Int.reduceLE, Int.reduceAdd, Int.reduceSub, Int.reduceMul, Int.reduceNeg, Nat.reducePow, Int.reducePow, hP, ltT, ltF, leT, leF, eqT, eqF, hops])
  refine hK4 _ _ ?_
  try clear hK4 K4
  refine SX.cond_k fun X5 Y5 hX5 hY5 => ?_
  simp (maxSteps := 1000000) (dsimp := false) (disch := omega) only [go_sem, add_addS, ia_someH, wu8, wu16, w32, wu32, wu64, w64, Nat.reduceEqDiff, Nat.reduceBEq, ↓reduceIte, reduceCtorEq, Int.reduceEq, Nat.reduceLT, Nat.reduceLeDiff, Nat.reduceAdd, Nat.reduceMul, Nat.reduceSub, Int.reduceToNat, Int.reduceLT, Int.reduceLE, Int.reduceAdd, Int.reduceSub, Int.reduceMul, Int.reduceNeg, Nat.reducePow, Int.reducePow, hP, ltT, ltF, leT, leF, eqT, eqF, condVC]
  refine ⟨fun hc11 => hX5 ?_, fun hc11 => hY5 ?_⟩
  · clear hX5 hY5 X5 Y5
    refine SX.seq_k fun K6 hK6 => ?_
    refine SX.region_d [some 2] rfl (fun ops hops => ?_)
    unfold Dsts at hops
    simp (maxSteps := 1000000) (dsimp := false) (disch := omega) only [go_sem, add_addS, ia_someH, wu8, wu16, w32, wu32, wu64, w64, Nat.reduceEqDiff, Nat.reduceBEq, ↓reduceIte, reduceCtorEq, Int.reduceEq, Nat.reduceLT, Nat.reduceLeDiff, Nat.reduceAdd, Nat.reduceMul, Nat.reduceSub, Int.reduceToNat, Int.reduceLT, Int.reduceLE, Int.reduceAdd, Int.reduceSub, Int.reduceMul, Int.reduceNeg, Nat.reducePow, Int.reducePow, hP, ltT, ltF, leT, leF, eqT, eqF, hops]
    refine hK6 _ _ ?_
    try clear hK6 K6
    refine SX.ret ?_
    simp only [andThen_normal, andThen_ret, andThen_exit, inBlk_normal, inBlk_ret, inBlk_exit, Nat.reduceEqDiff, if_true, if_false, ↓reduceIte, retQ_ret]
    try simp only [res0, res1, res2, res3, stK_e, go_sem, add_addS, ia_someH, wu8, wu16, w32, wu32, wu64, w64, Nat.reduceEqDiff, Nat.reduceBEq, ↓reduceIte, reduceCtorEq, Int.reduceEq, Nat.reduceLT, Nat.reduceLeDiff, Nat.reduceAdd, Nat.reduceMul, Nat.reduceSub, Int.reduceToNat, Int.reduceLT, Int.reduceLE, Int.reduceAdd, Int.reduceSub, Int.reduceMul, Int.reduceNeg, Nat.reducePow, Int.reducePow, hP, ltT, ltF, leT, leF, eqT, eqF]
    exact ⟨_, L, (by first | exact Less.refl _ | exact Less.drop _ _ | exact Less.drops (Less.drop _ _) | exact Less.drops (Less.drops (Less.drop _ _)) | exact Less.drops (Less.drops (Less.drops (Less.drop _ _))) | exact Less.drops (Less.drops (Less.drops (Less.drops (Less.drop _ _))))), rfl, rfl, rfl⟩
  · clear hX5 hY5 X5 Y5
    refine SX.skip ?_
    try simp only [andThen_normal, andThen_ret, andThen_exit, inBlk_normal, inBlk_ret, inBlk_exit, Nat.reduceEqDiff, if_true, if_false, ↓reduceIte]
    refine hK3 _ _ ?_
    try clear hK3 K3
    refine SX.seq_k fun K7 hK7 => ?_
    refine SX.region_d [some 13, some 14, some 12, some 15, some 16, some 4, none, some 5] rfl (fun ops hops => ?_)
    unfold Dsts at hops
    simp (maxSteps := 1000000) (dsimp := false) (disch := omega) only [go_sem, add_addS, ia_someH, wu8, wu16, w32, wu32, wu64, w64, Nat.reduceEqDiff, Nat.reduceBEq, ↓reduceIte, reduceCtorEq, Int.reduceEq, Nat.reduceLT, Nat.reduceLeDiff, Nat.reduceAdd, Nat.reduceMul, Nat.reduceSub, Int.reduceToNat, Int.reduceLT, Int.reduceLE, Int.reduceAdd, Int.reduceSub, Int.reduceMul, Int.reduceNeg, Nat.reducePow, Int.reducePow, hP, ltT, ltF, leT, leF, eqT, eqF, hops, Ord.cells, zeroO]
    refine SCall.mono (Parse_spec (s := s) hP hM (by omega)) ?_
    rintro v_ L_ ⟨hv_, hL_⟩
    rw [hv_, hL_]
    clear hv_ hL_ v_ L_
    unfold parseR
    rcases hps : parse s with _ | o
    · skip
      try with_reducible refine stI ?_
      dsimp only
      try with_reducible refine stI ?_
      try simp (maxSteps := 1000000) (dsimp := false) (disch := omega) only [go_sem, add_addS, ia_someH, wu8, wu16, w32, wu32, wu64, w64, Nat.reduceEqDiff, Nat.reduceBEq, ↓reduceIte, reduceCtorEq, Int.reduceEq, Nat.reduceLT, Nat.reduceLeDiff, Nat.reduceAdd, Nat.reduceMul, Nat.reduceSub, Int.reduceToNat, Int.reduceLT, Int.reduceLE, Int.reduceAdd, Int.reduceSub, Int.reduceMul, Int.reduceNeg, Nat.reducePow, Int.reducePow, hP, ltT, ltF, leT, leF, eqT, eqF, hops, Ord.cells, zeroO]
      intro g4
      try with_reducible refine stI ?_
      try simp (maxSteps := 1000000) (dsimp := false) (disch := omega) only [go_sem, add_addS, ia_someH, wu8, wu16, w32, wu32, wu64, w64, Nat.reduceEqDiff, Nat.reduceBEq, ↓reduceIte, reduceCtorEq, Int.reduceEq, Nat.reduceLT, Nat.reduceLeDiff, Nat.reduceAdd, Nat.reduceMul, Nat.reduceSub, Int.reduceToNat, Int.reduceLT, Int.reduceLE, Int.reduceAdd, Int.reduceSub, Int.reduceMul, Int.reduceNeg, Nat.reducePow, Int.reducePow, hP, ltT, ltF, leT, leF, eqT, eqF, hops, Ord.cells, zeroO]
      refine ⟨0, _, _, _, rfl, by simp [zeroO], .inr (by decide), ?_⟩
      try with_reducible refine stI ?_
      try simp (maxSteps := 1000000) (dsimp := false) (disch := omega) only [go_sem, add_addS, ia_someH, wu8, wu16, w32, wu32, wu64, w64, Nat.reduceEqDiff, Nat.reduceBEq, ↓reduceIte, reduceCtorEq, Int.reduceEq, Nat.reduceLT, Nat.reduceLeDiff, Nat.reduceAdd, Nat.reduceMul, Nat.reduceSub, Int.reduceToNat, Int.reduceLT, Int.reduceLE, Int.reduceAdd, Int.reduceSub, Int.reduceMul, Int.reduceNeg, Nat.reducePow, Int.reducePow, hP, ltT, ltF, leT, leF, eqT, eqF, hops, Ord.cells, zeroO]
      refine hK7 _ _ ?_
      try clear hK7 K7
      refine SX.live [0, 3, 4, 5] (fun T1 hT1 => ?_)
      simp only [forall_mem_cons', forall_mem_nil', go_sem, add_addS, ia_someH, wu8, wu16, w32, wu32, wu64, w64, Nat.reduceEqDiff, Nat.reduceBEq, ↓reduceIte, reduceCtorEq, Int.reduceEq, Nat.reduceLT, Nat.reduceLeDiff, Nat.reduceAdd, Nat.reduceMul, Nat.reduceSub, Int.reduceToNat, Int.reduceLT, Int.reduceLE, Int.reduceAdd, Int.reduceSub, Int.reduceMul, Int.reduceNeg, Nat.reducePow, Int.reducePow, hP, ltT, ltF, leT, leF, eqT, eqF] at hT1
      obtain ⟨h1_0, h1_3, h1_4, h1_5⟩ := hT1
      refine SX.seq_k fun K8 hK8 => ?_
      refine SX.seq_k fun K9 hK9 => ?_
      refine SX.region_d [some 17, some 18, some 19, some 20, some 21, some 22] rfl (fun ops hops => ?_)
      unfold Dsts at hops
      simp (maxSteps := 1000000) (dsimp := false) (disch := omega) only [go_sem, add_addS, ia_someH, wu8, wu16, w32, wu32, wu64, w64, Nat.reduceEqDiff, Nat.reduceBEq, ↓reduceIte, reduceCtorEq, Int.reduceEq, Nat.reduceLT, Nat.reduceLeDiff, Nat.reduceAdd, Nat.reduceMul, Nat.reduceSub, Int.reduceToNat, Int.reduceLT, Int.reduceLE, Int.reduceAdd, Int.reduceSub, Int.reduceMul, Int.reduceNeg, Nat.reducePow, Int.reducePow, hP, h1_0, h1_3, h1_4, h1_5, ltT, ltF, leT, leF, eqT, eqF, hops]
      repeat' ((first | refine And.intro (by omega) ?_ | fail); try (with_reducible refine stI ?_); try simp (maxSteps := 1000000) (dsimp := false) (disch := omega) only [go_sem, add_addS, ia_someH, wu8, wu16, w32, wu32, wu64, w64, Nat.reduceEqDiff, Nat.reduceBEq, ↓reduceIte, reduceCtorEq, Int.reduceEq, Nat.reduceLT, Nat.reduceLeDiff, Nat.reduceAdd, Nat.reduceMul, Nat.reduceSub, Int.reduceToNat, Int.reduceLT, Int.reduceLE, Int.reduceAdd, Int.reduceSub, Int.reduceMul, Int.reduceNeg, Nat.reducePow, Int.reducePow, hP, h1_0, h1_3, h1_4, h1_5, ltT, ltF, leT, leF, eqT, eqF, hops])
      refine hK9 _ _ ?_
      try clear hK9 K9
      refine SX.cond_k fun X10 Y10 hX10 hY10 => ?_
      simp (maxSteps := 1000000) (dsimp := false) (disch := omega) only [go_sem, add_addS, ia_someH, wu8, wu16, w32, wu32, wu64, w64, Nat.reduceEqDiff, Nat.reduceBEq, ↓reduceIte, reduceCtorEq, Int.reduceEq, Nat.reduceLT, Nat.reduceLeDiff, Nat.reduceAdd, Nat.reduceMul, Nat.reduceSub, Int.reduceToNat, Int.reduceLT, Int.reduceLE, Int.reduceAdd, Int.reduceSub, Int.reduceMul, Int.reduceNeg, Nat.reducePow, Int.reducePow, hP, h1_0, h1_3, h1_4, h1_5, ltT, ltF, leT, leF, eqT, eqF, condVC]
      refine hX10 ?_
      clear hX10 hY10 X10 Y10
      refine SX.seq_k fun K11 hK11 => ?_
      refine SX.region_d [some 23, some 24, some 25, some 26, some 27, some 28, some 29, some 30, some 31, some 32, some 2] rfl (fun ops hops => ?_)
      unfold Dsts at hops
      simp (maxSteps := 1000000) (dsimp := false) (disch := omega) only [go_sem, add_addS, ia_someH, wu8, wu16, w32, wu32, wu64, w64, Nat.reduceEqDiff, Nat.reduceBEq, ↓reduceIte, reduceCtorEq, Int.reduceEq, Nat.reduceLT, Nat.reduceLeDiff, Nat.reduceAdd, Nat.reduceMul, Nat.reduceSub, Int.reduceToNat, Int.reduceLT, Int.reduceLE, Int.reduceAdd, Int.reduceSub, Int.reduceMul, Int.reduceNeg, Nat.reducePow, Int.reducePow, hP, h1_0, h1_3, h1_4, h1_5, ltT, ltF, leT, leF, eqT, eqF, hops, zeroO]
      repeat' ((first | refine ⟨_, Cell.at 0 rfl (show (Ord.cells _)[0]? = _ from rfl), _, Cell.at 0 rfl (show (Ord.cells _)[1]? = _ from rfl), _, Cell.at 0 rfl (show (Ord.cells _)[2]? = _ from rfl), _, Cell.at 0 rfl (show (Ord.cells _)[3]? = _ from rfl), _, Cell.at 0 rfl (show (Ord.cells _)[4]? = _ from rfl), _, Cell.at 0 rfl (show (Ord.cells _)[5]? = _ from rfl), ?_⟩ | (refine aggEq_of eqT_25 (by simp only [okVs, okV, wf_i64, wf_u8, wf_u16, Bool.and_eq_true, decide_eq_true_eq, decide_true, true_and, and_true, Bool.and_true, Bool.true_and, and_self]; try omega) (by simp only [okVs, okV, wf_i64, wf_u8, wf_u16, Bool.and_eq_true, decide_eq_true_eq, decide_true, true_and, and_true, Bool.and_true, Bool.true_and, and_self]; try omega) (fun r hr => ?_); simp only [litV, List.map_cons, List.map_nil, List.cons.injEq, Lit.int.injEq, Lit.bool.injEq, Lit.string.injEq, true_and, and_true, and_self, iff_true, eq_self] at hr; first | (obtain rfl := hr) | (obtain rfl : r = true := hr.2 (by simp))) | refine ⟨_, Cell.at 0 rfl rfl, ?_⟩ | refine ⟨_, Cell.at 1 rfl rfl, ?_⟩ | refine ⟨_, Cell.at 2 rfl rfl, ?_⟩ | refine ⟨_, Cell.at 3 rfl rfl, ?_⟩ | refine And.intro (by omega) ?_ | fail); try (with_reducible refine stI ?_); try simp (maxSteps := 1000000) (dsimp := false) (disch := omega) only [go_sem, add_addS, ia_someH, wu8, wu16, w32, wu32, wu64, w64, Nat.reduceEqDiff, Nat.reduceBEq, ↓reduceIte, reduceCtorEq, Int.reduceEq, Nat.reduceLT, Nat.reduceLeDiff, Nat.reduceAdd, Nat.reduceMul, Nat.reduceSub, Int.reduceToNat, Int.reduceLT, Int.reduceLE, Int.reduceAdd, Int.reduceSub, Int.reduceMul, Int.reduceNeg, Nat.reducePow, Int.reducePow, hP, h1_0, h1_3, h1_4, h1_5, ltT, ltF, leT, leF, eqT, eqF, hops, zeroO])
      refine hK11 _ _ ?_
      try clear hK11 K11
      refine SX.ret ?_
      simp only [andThen_normal, andThen_ret, andThen_exit, inBlk_normal, inBlk_ret, inBlk_exit, Nat.reduceEqDiff, if_true, if_false, ↓reduceIte, retQ_ret]
      try simp only [res0, res1, res2, res3, stK_e, go_sem, add_addS, ia_someH, wu8, wu16, w32, wu32, wu64, w64, Nat.reduceEqDiff, Nat.reduceBEq, ↓reduceIte, reduceCtorEq, Int.reduceEq, Nat.reduceLT, Nat.reduceLeDiff, Nat.reduceAdd, Nat.reduceMul, Nat.reduceSub, Int.reduceToNat, Int.reduceLT, Int.reduceLE, Int.reduceAdd, Int.reduceSub, Int.reduceMul, Int.reduceNeg, Nat.reducePow, Int.reducePow, hP, h1_0, h1_3, h1_4, h1_5, ltT, ltF, leT, leF, eqT, eqF]
      exact ⟨_, L, (by first | exact Less.refl _ | exact Less.drop _ _ | exact Less.drops (Less.drop _ _) | exact Less.drops (Less.drops (Less.drop _ _)) | exact Less.drops (Less.drops (Less.drops (Less.drop _ _))) | exact Less.drops (Less.drops (Less.drops (Less.drops (Less.drop _ _))))), rfl, rfl, rfl⟩
    · skip
      try with_reducible refine stI ?_
      obtain ⟨hpr, ho⟩ := parse_back hps
      dsimp only
      try with_reducible refine stI ?_
      try simp (maxSteps := 1000000) (dsimp := false) (disch := omega) only [go_sem, add_addS, ia_someH, wu8, wu16, w32, wu32, wu64, w64, Nat.reduceEqDiff, Nat.reduceBEq, ↓reduceIte, reduceCtorEq, Int.reduceEq, Nat.reduceLT, Nat.reduceLeDiff, Nat.reduceAdd, Nat.reduceMul, Nat.reduceSub, Int.reduceToNat, Int.reduceLT, Int.reduceLE, Int.reduceAdd, Int.reduceSub, Int.reduceMul, Int.reduceNeg, Nat.reducePow, Int.reducePow, hP, ltT, ltF, leT, leF, eqT, eqF, hops, Ord.cells, zeroO]
      intro g4
      try with_reducible refine stI ?_
      try simp (maxSteps := 1000000) (dsimp := false) (disch := omega) only [go_sem, add_addS, ia_someH, wu8, wu16, w32, wu32, wu64, w64, Nat.reduceEqDiff, Nat.reduceBEq, ↓reduceIte, reduceCtorEq, Int.reduceEq, Nat.reduceLT, Nat.reduceLeDiff, Nat.reduceAdd, Nat.reduceMul, Nat.reduceSub, Int.reduceToNat, Int.reduceLT, Int.reduceLE, Int.reduceAdd, Int.reduceSub, Int.reduceMul, Int.reduceNeg, Nat.reducePow, Int.reducePow, hP, ltT, ltF, leT, leF, eqT, eqF, hops, Ord.cells, zeroO]
      refine ⟨0, _, _, _, rfl, by simp [Ord.cells], .inr (by decide), ?_⟩
      try with_reducible refine stI ?_
      try simp (maxSteps := 1000000) (dsimp := false) (disch := omega) only [go_sem, add_addS, ia_someH, wu8, wu16, w32, wu32, wu64, w64, Nat.reduceEqDiff, Nat.reduceBEq, ↓reduceIte, reduceCtorEq, Int.reduceEq, Nat.reduceLT, Nat.reduceLeDiff, Nat.reduceAdd, Nat.reduceMul, Nat.reduceSub, Int.reduceToNat, Int.reduceLT, Int.reduceLE, Int.reduceAdd, Int.reduceSub, Int.reduceMul, Int.reduceNeg, Nat.reducePow, Int.reducePow, hP, ltT, ltF, leT, leF, eqT, eqF, hops, Ord.cells, zeroO]
      refine hK7 _ _ ?_
      try clear hK7 K7
      refine SX.live [0, 3, 4, 5] (fun T2 hT2 => ?_)
      simp only [forall_mem_cons', forall_mem_nil', go_sem, add_addS, ia_someH, wu8, wu16, w32, wu32, wu64, w64, Nat.reduceEqDiff, Nat.reduceBEq, ↓reduceIte, reduceCtorEq, Int.reduceEq, Nat.reduceLT, Nat.reduceLeDiff, Nat.reduceAdd, Nat.reduceMul, Nat.reduceSub, Int.reduceToNat, Int.reduceLT, Int.reduceLE, Int.reduceAdd, Int.reduceSub, Int.reduceMul, Int.reduceNeg, Nat.reducePow, Int.reducePow, hP, ltT, ltF, leT, leF, eqT, eqF] at hT2
      obtain ⟨h2_0, h2_3, h2_4, h2_5⟩ := hT2
      refine SX.seq_k fun K12 hK12 => ?_
      refine SX.seq_k fun K13 hK13 => ?_
      refine SX.region_d [some 17, some 18, some 19, some 20, some 21, some 22] rfl (fun ops hops => ?_)
      unfold Dsts at hops
      simp (maxSteps := 1000000) (dsimp := false) (disch := omega) only [go_sem, add_addS, ia_someH, wu8, wu16, w32, wu32, wu64, w64, Nat.reduceEqDiff, Nat.reduceBEq, ↓reduceIte, reduceCtorEq, Int.reduceEq, Nat.reduceLT, Nat.reduceLeDiff, Nat.reduceAdd, Nat.reduceMul, Nat.reduceSub, Int.reduceToNat, Int.reduceLT, Int.reduceLE, Int.reduceAdd, Int.reduceSub, Int.reduceMul, Int.reduceNeg, Nat.reducePow, Int.reducePow, hP, h2_0, h2_3, h2_4, h2_5, ltT, ltF, leT, leF, eqT, eqF, hops]
      repeat' ((first | refine And.intro (by omega) ?_ | fail); try (with_reducible refine stI ?_); try simp (maxSteps := 1000000) (dsimp := false) (disch := omega) only [go_sem, add_addS, ia_someH, wu8, wu16, w32, wu32, wu64, w64, Nat.reduceEqDiff, Nat.reduceBEq, ↓reduceIte, reduceCtorEq, Int.reduceEq, Nat.reduceLT, Nat.reduceLeDiff, Nat.reduceAdd, Nat.reduceMul, Nat.reduceSub, Int.reduceToNat, Int.reduceLT, Int.reduceLE, Int.reduceAdd, Int.reduceSub, Int.reduceMul, Int.reduceNeg, Nat.reducePow, Int.reducePow, hP, h2_0, h2_3, h2_4, h2_5, ltT, ltF, leT, leF, eqT, eqF, hops])
      refine hK13 _ _ ?_
      try clear hK13 K13
      refine SX.cond_k fun X14 Y14 hX14 hY14 => ?_
      simp (maxSteps := 1000000) (dsimp := false) (disch := omega) only [go_sem, add_addS, ia_someH, wu8, wu16, w32, wu32, wu64, w64, Nat.reduceEqDiff, Nat.reduceBEq, ↓reduceIte, reduceCtorEq, Int.reduceEq, Nat.reduceLT, Nat.reduceLeDiff, Nat.reduceAdd, Nat.reduceMul, Nat.reduceSub, Int.reduceToNat, Int.reduceLT, Int.reduceLE, Int.reduceAdd, Int.reduceSub, Int.reduceMul, Int.reduceNeg, Nat.reducePow, Int.reducePow, hP, h2_0, h2_3, h2_4, h2_5, ltT, ltF, leT, leF, eqT, eqF, condVC]
      refine hY14 ?_
      clear hX14 hY14 X14 Y14
      refine SX.skip ?_
      try simp only [andThen_normal, andThen_ret, andThen_exit, inBlk_normal, inBlk_ret, inBlk_exit, Nat.reduceEqDiff, if_true, if_false, ↓reduceIte]
      refine hK12 _ _ ?_
      try clear hK12 K12
      refine SX.seq_k fun K15 hK15 => ?_
      refine SX.region_d [some 34, some 35, some 33, some 36, some 37, some 6, some 7] rfl (fun ops hops => ?_)
      unfold Dsts at hops
      simp (maxSteps := 1000000) (dsimp := false) (disch := omega) only [go_sem, add_addS, ia_someH, wu8, wu16, w32, wu32, wu64, w64, Nat.reduceEqDiff, Nat.reduceBEq, ↓reduceIte, reduceCtorEq, Int.reduceEq, Nat.reduceLT, Nat.reduceLeDiff, Nat.reduceAdd, Nat.reduceMul, Nat.reduceSub, Int.reduceToNat, Int.reduceLT, Int.reduceLE, Int.reduceAdd, Int.reduceSub, Int.reduceMul, Int.reduceNeg, Nat.reducePow, Int.reducePow, hP, h2_0, h2_3, h2_4, h2_5, ltT, ltF, leT, leF, eqT, eqF, hops]
      refine ⟨_, Cell.at 0 rfl (show (Ord.cells _)[0]? = _ from rfl), _, Cell.at 0 rfl (show (Ord.cells _)[1]? = _ from rfl), _, Cell.at 0 rfl (show (Ord.cells _)[2]? = _ from rfl), _, Cell.at 0 rfl (show (Ord.cells _)[3]? = _ from rfl), _, Cell.at 0 rfl (show (Ord.cells _)[4]? = _ from rfl), _, Cell.at 0 rfl (show (Ord.cells _)[5]? = _ from rfl), ?_⟩
      try with_reducible refine stI ?_
      try simp (maxSteps := 1000000) (dsimp := false) (disch := omega) only [go_sem, add_addS, ia_someH, wu8, wu16, w32, wu32, wu64, w64, Nat.reduceEqDiff, Nat.reduceBEq, ↓reduceIte, reduceCtorEq, Int.reduceEq, Nat.reduceLT, Nat.reduceLeDiff, Nat.reduceAdd, Nat.reduceMul, Nat.reduceSub, Int.reduceToNat, Int.reduceLT, Int.reduceLE, Int.reduceAdd, Int.reduceSub, Int.reduceMul, Int.reduceNeg, Nat.reducePow, Int.reducePow, hP, h2_0, h2_3, h2_4, h2_5, ltT, ltF, leT, leF, eqT, eqF, hops]
      refine SCall.mono (Print_spec (o := o) hP ho) ?_
      rintro v_ L_ ⟨hv_, hL_⟩
      rw [hv_, hL_]
      clear hv_ hL_ v_ L_
      unfold printR
      rw [hpr]
      dsimp only
      try with_reducible refine stI ?_
      try simp (maxSteps := 1000000) (dsimp := false) (disch := omega) only [go_sem, add_addS, ia_someH, wu8, wu16, w32, wu32, wu64, w64, Nat.reduceEqDiff, Nat.reduceBEq, ↓reduceIte, reduceCtorEq, Int.reduceEq, Nat.reduceLT, Nat.reduceLeDiff, Nat.reduceAdd, Nat.reduceMul, Nat.reduceSub, Int.reduceToNat, Int.reduceLT, Int.reduceLE, Int.reduceAdd, Int.reduceSub, Int.reduceMul, Int.reduceNeg, Nat.reducePow, Int.reducePow, hP, h2_0, h2_3, h2_4, h2_5, ltT, ltF, leT, leF, eqT, eqF, hops]
      refine hK15 _ _ ?_
      try clear hK15 K15
      refine SX.live [0, 6, 7] (fun T3 hT3 => ?_)
      simp only [forall_mem_cons', forall_mem_nil', go_sem, add_addS, ia_someH, wu8, wu16, w32, wu32, wu64, w64, Nat.reduceEqDiff, Nat.reduceBEq, ↓reduceIte, reduceCtorEq, Int.reduceEq, Nat.reduceLT, Nat.reduceLeDiff, Nat.reduceAdd, Nat.reduceMul, Nat.reduceSub, Int.reduceToNat, Int.reduceLT, Int.reduceLE, Int.reduceAdd, Int.reduceSub, Int.reduceMul, Int.reduceNeg, Nat.reducePow, Int.reducePow, hP, h2_0, h2_3, h2_4, h2_5, ltT, ltF, leT, leF, eqT, eqF] at hT3
      obtain ⟨h3_0, h3_6, h3_7⟩ := hT3
      clear h2_0 h2_3 h2_4 h2_5 T2
      refine SX.seq_k fun K16 hK16 => ?_
      refine SX.region_d [some 38, some 39, some 40, some 41, some 42, some 43, some 44, some 2] rfl (fun ops hops => ?_)
      unfold Dsts at hops
      simp (maxSteps := 1000000) (dsimp := false) (disch := omega) only [go_sem, add_addS, ia_someH, wu8, wu16, w32, wu32, wu64, w64, Nat.reduceEqDiff, Nat.reduceBEq, ↓reduceIte, reduceCtorEq, Int.reduceEq, Nat.reduceLT, Nat.reduceLeDiff, Nat.reduceAdd, Nat.reduceMul, Nat.reduceSub, Int.reduceToNat, Int.reduceLT, Int.reduceLE, Int.reduceAdd, Int.reduceSub, Int.reduceMul, Int.reduceNeg, Nat.reducePow, Int.reducePow, hP, h3_0, h3_6, h3_7, ltT, ltF, leT, leF, eqT, eqF, hops]
      repeat' ((first | refine And.intro (by omega) ?_ | fail); try (with_reducible refine stI ?_); try simp (maxSteps := 1000000) (dsimp := false) (disch := omega) only [go_sem, add_addS, ia_someH, wu8, wu16, w32, wu32, wu64, w64, Nat.reduceEqDiff, Nat.reduceBEq, ↓reduceIte, reduceCtorEq, Int.reduceEq, Nat.reduceLT, Nat.reduceLeDiff, Nat.reduceAdd, Nat.reduceMul, Nat.reduceSub, Int.reduceToNat, Int.reduceLT, Int.reduceLE, Int.reduceAdd, Int.reduceSub, Int.reduceMul, Int.reduceNeg, Nat.reducePow, Int.reducePow, hP, h3_0, h3_6, h3_7, ltT, ltF, leT, leF, eqT, eqF, hops])
      refine hK16 _ _ ?_
      try clear hK16 K16
      refine SX.ret ?_
      simp only [andThen_normal, andThen_ret, andThen_exit, inBlk_normal, inBlk_ret, inBlk_exit, Nat.reduceEqDiff, if_true, if_false, ↓reduceIte, retQ_ret]
      try simp only [res0, res1, res2, res3, stK_e, go_sem, add_addS, ia_someH, wu8, wu16, w32, wu32, wu64, w64, Nat.reduceEqDiff, Nat.reduceBEq, ↓reduceIte, reduceCtorEq, Int.reduceEq, Nat.reduceLT, Nat.reduceLeDiff, Nat.reduceAdd, Nat.reduceMul, Nat.reduceSub, Int.reduceToNat, Int.reduceLT, Int.reduceLE, Int.reduceAdd, Int.reduceSub, Int.reduceMul, Int.reduceNeg, Nat.reducePow, Int.reducePow, hP, h3_0, h3_6, h3_7, ltT, ltF, leT, leF, eqT, eqF]
      exact ⟨_, L, (by first | exact Less.refl _ | exact Less.drop _ _ | exact Less.drops (Less.drop _ _) | exact Less.drops (Less.drops (Less.drop _ _)) | exact Less.drops (Less.drops (Less.drops (Less.drop _ _))) | exact Less.drops (Less.drops (Less.drops (Less.drops (Less.drop _ _))))), rfl, rfl, rfl⟩

end Go.Proofs.YthhogfnghaikaaaDoor
