/- A part of the proof of SpriteExactCardSaid. -/
import Derived.Test.YtcakdalajafmoaaDoorCV5
import Derived.Test.YtcakdalajafmoaaDoorCW1
set_option linter.unusedVariables false
set_option linter.unusedSimpArgs false
namespace Go.Proofs.YtcakdalajafmoaaDoor
open Go.RowKit Go.SX
open Go.SX renaming env0_zero → Φa, env0_succ → Φb, env0_nil → Φc, andThen_normal → Φd, andThen_ret → Φe, andThen_exit → Φf, inBlk_normal → Φg, inBlk_ret → Φh, inBlk_exit → Φi
open Nat renaming reduceEqDiff → Φj, reduceBEq → Φk, reduceLeDiff → ΦZ
open Bool renaming not_true → Φl, not_false → Φm, false_eq_true → Φn, true_eq_false → Φo, not_eq_true' → Φq, not_eq_false' → Φr, not_eq_true → Φt, not_eq_false → Φu, and_true → Φw, true_and → Φx, and_self → Φy, and_false → Φz, false_and → ΦA
open Int renaming reduceEq → Φp, natCast_inj → Φv
open Decidable renaming not_not → Φs
open Option renaming map_some → ΦB, map_none → ΦC, bind_some → ΦD, bind_none → ΦE, isSome_some → ΦF, isSome_none → ΦG
open Option.some renaming injEq → ΦH
open List renaming map_toArray → ΦI, toList_toArray → ΦJ, append_toArray → ΦK, nil_append → ΦL, cons_append → ΦM, append_nil → ΦN, flatMap_cons → ΦO, flatMap_nil → ΦP, length_cons → ΦQ, length_nil → ΦR, set_cons_zero → ΦS, set_cons_succ → ΦT, drop_zero → ΦU, drop_succ_cons → ΦV, take_succ_cons → ΦW, take_zero → ΦX, size_toArray → ΦY
set_option maxHeartbeats 1000000 in
set_option maxRecDepth 100000 in
theorem refShow_spec {Γ : Ctx} (hP : Γ.P = Tryd.prog) {L : Hp} {va : Value} {page : List Int} (ha : SlI .u8 (Cell Γ L) va page) (hbyte : Byte page) (hm : page.length ≤ 140737488351232) :
    SCall Γ 14 #[va] L (fun v L' => v = .tuple #[.string (showS page), .int .i64 (showE page)] ∧ L' = L) := by
  have ha0 := ha
  obtain ⟨A, ca, rfl, hca', hA⟩ := ha
  refine SCall.enter (n := 33) (res2 2 3) (hP ▸ Tryd.func14) rfl rfl (by simp) (res2_ok rfl) ?_
  refine SX.seq_k fun K1 hK1 => ?_
  refine SX.region ?_
  simp (maxSteps := 1000000) only [upd_app, Φa, Φb, Φc, ev, Φd, Φe, Φf, Φg, Φh, Φi, Φj, Φk, reduceIte, reduceCtorEq, if_true, if_false, Φl, Φm, Φn, Φo, true_and, and_true, false_and, and_false, true_implies, forall_const, false_implies, ne_eq, not_true_eq_false, not_false_eq_true, decide_true, decide_false, Φp, and_self, true_or, or_true, dite_true, dite_false, Φq, Φr, decide_eq_true_eq, decide_eq_false_iff_not, Φs, Φt, Φu, Φv, beq_self_eq_true, Φw, Φx, Φy, Φz, ΦA, eq_self, VCplan, less_refl_t, less_drop_t, VCops, VQops, guardVC, putVC, VC, VQ, ΦB, ΦC, ΦD, ΦE, ΦF, ΦG, ΦH, List.getElem?_cons_zero, List.getElem?_cons_succ, List.getElem?_nil, List.getElem?_toArray, List.map_cons, List.map_nil, ΦI, ΦJ, ΦK, ΦL, ΦM, ΦN, ΦO, ΦP, ΦQ, ΦR, ΦS, ΦT, ΦU, ΦV, ΦW, ΦX, ΦY, Nat.reduceLT, ΦZ, Nat.reduceAdd, Nat.reduceMul, Nat.reduceSub, Nat.add_zero, Nat.zero_add, Nat.mul_one, exists_eq_left, exists_eq_left', exists_const, existsSome, Nat.zero_le, Nat.le_refl, T.callable_19, hP]
  refine hK1 _ _ ?_
  try clear hK1 K1
  refine SX.seq_k fun K2 hK2 => ?_
  refine SX.seq_k fun K3 hK3 => ?_
  refine SX.region ?_
  simp (maxSteps := 1000000) only [upd_app, Φa, Φb, Φc, ev, Φd, Φe, Φf, Φg, Φh, Φi, Φj, Φk, reduceIte, reduceCtorEq, if_true, if_false, Φl, Φm, Φn, Φo, true_and, and_true, false_and, and_false, true_implies, forall_const, false_implies, ne_eq, not_true_eq_false, not_false_eq_true, decide_true, decide_false, Φp, and_self, true_or, or_true, dite_true, dite_false, Φq, Φr, decide_eq_true_eq, decide_eq_false_iff_not, Φs, Φt, Φu, Φv, beq_self_eq_true, Φw, Φx, Φy, Φz, ΦA, eq_self, VCplan, less_refl_t, less_drop_t, VCops, VQops, guardVC, putVC, VC, VQ, ΦB, ΦC, ΦD, ΦE, ΦF, ΦG, ΦH, List.getElem?_cons_zero, List.getElem?_cons_succ, List.getElem?_nil, List.getElem?_toArray, List.map_cons, List.map_nil, ΦI, ΦJ, ΦK, ΦL, ΦM, ΦN, ΦO, ΦP, ΦQ, ΦR, ΦS, ΦT, ΦU, ΦV, ΦW, ΦX, ΦY, Nat.reduceLT, ΦZ, Nat.reduceAdd, Nat.reduceMul, Nat.reduceSub, Nat.add_zero, Nat.zero_add, Nat.mul_one, exists_eq_left, exists_eq_left', exists_const, existsSome, Nat.zero_le, Nat.le_refl, qcall_f, call_f, len_slice, len_str, cap_slice, min_int, max_int, T.elS_25, T.szA_25, T.zr_25, Tryd.underlying25, bin_neq, bin_neqb, bin_neqs, bin_neqa, T.szA_3, T.zr_3, Tryd.underlying3, T.callable_19, hP]
  refine hK3 _ _ ?_
  try clear hK3 K3
  refine SX.cond_k fun X4 Y4 hX4 hY4 => ?_
  simp (maxSteps := 1000000) only [upd_app, Φa, Φb, Φc, ev, Φd, Φe, Φf, Φg, Φh, Φi, Φj, Φk, reduceIte, reduceCtorEq, if_true, if_false, Φl, Φm, Φn, Φo, true_and, and_true, false_and, and_false, true_implies, forall_const, false_implies, ne_eq, not_true_eq_false, not_false_eq_true, decide_true, decide_false, Φp, and_self, true_or, or_true, dite_true, dite_false, Φq, Φr, decide_eq_true_eq, decide_eq_false_iff_not, Φs, Φt, Φu, Φv, beq_self_eq_true, Φw, Φx, Φy, Φz, ΦA, eq_self, hP, condVC]
  refine ⟨fun hc9 => hX4 ?_, fun hc9 => hY4 ?_⟩
  · clear hX4 hY4 X4 Y4
    refine SX.seq_k fun K5 hK5 => ?_
    refine SX.region ?_
    simp (maxSteps := 1000000) only [upd_app, Φa, Φb, Φc, ev, Φd, Φe, Φf, Φg, Φh, Φi, Φj, Φk, reduceIte, reduceCtorEq, if_true, if_false, Φl, Φm, Φn, Φo, true_and, and_true, false_and, and_false, true_implies, forall_const, false_implies, ne_eq, not_true_eq_false, not_false_eq_true, decide_true, decide_false, Φp, and_self, true_or, or_true, dite_true, dite_false, Φq, Φr, decide_eq_true_eq, decide_eq_false_iff_not, Φs, Φt, Φu, Φv, beq_self_eq_true, Φw, Φx, Φy, Φz, ΦA, eq_self, VCplan, less_refl_t, less_drop_t, VCops, VQops, guardVC, putVC, VC, VQ, ΦB, ΦC, ΦD, ΦE, ΦF, ΦG, ΦH, List.getElem?_cons_zero, List.getElem?_cons_succ, List.getElem?_nil, List.getElem?_toArray, List.map_cons, List.map_nil, ΦI, ΦJ, ΦK, ΦL, ΦM, ΦN, ΦO, ΦP, ΦQ, ΦR, ΦS, ΦT, ΦU, ΦV, ΦW, ΦX, ΦY, Nat.reduceLT, ΦZ, Nat.reduceAdd, Nat.reduceMul, Nat.reduceSub, Nat.add_zero, Nat.zero_add, Nat.mul_one, exists_eq_left, exists_eq_left', exists_const, existsSome, Nat.zero_le, Nat.le_refl, T.callable_19, hP]
    refine hK5 _ _ ?_
    try clear hK5 K5
    refine SX.ret ?_
    simp only [Φd, Φe, Φf, Φg, Φh, Φi, Φj, if_true, if_false, reduceIte, retQ_ret]
    try simp only [res0, res1, res2, res3, upd_app, Φa, Φb, Φc, ev, Φd, Φe, Φf, Φg, Φh, Φi, Φj, Φk, reduceIte, reduceCtorEq, if_true, if_false, Φl, Φm, Φn, Φo, true_and, and_true, false_and, and_false, true_implies, forall_const, false_implies, ne_eq, not_true_eq_false, not_false_eq_true, decide_true, decide_false, Φp, and_self, true_or, or_true, dite_true, dite_false, Φq, Φr, decide_eq_true_eq, decide_eq_false_iff_not, Φs, Φt, Φu, Φv, beq_self_eq_true, Φw, Φx, Φy, Φz, ΦA, eq_self, hP]
    exact ⟨_, L, (by first | exact Less.refl _ | exact Less.drop _ _ | exact Less.drops (Less.drop _ _) | exact Less.drops (Less.drops (Less.drop _ _)) | exact Less.drops (Less.drops (Less.drops (Less.drop _ _))) | exact Less.drops (Less.drops (Less.drops (Less.drops (Less.drop _ _))))), rfl, by rw [showS, showE, if_neg (by omega), if_neg (by omega)]; rfl, rfl⟩
  · clear hX4 hY4 X4 Y4
    have hpl : page.length = 256 := by omega
    have hgd : Good page := Byte.good hpl hbyte
    refine SX.skip ?_
    try simp only [Φd, Φe, Φf, Φg, Φh, Φi, Φj, if_true, if_false, reduceIte]
    refine hK2 _ _ ?_
    try clear hK2 K2
    refine SX.seq_k fun K6 hK6 => ?_
    refine SX.region ?_
    simp (maxSteps := 1000000) only [upd_app, Φa, Φb, Φc, ev, Φd, Φe, Φf, Φg, Φh, Φi, Φj, Φk, reduceIte, reduceCtorEq, if_true, if_false, Φl, Φm, Φn, Φo, true_and, and_true, false_and, and_false, true_implies, forall_const, false_implies, ne_eq, not_true_eq_false, not_false_eq_true, decide_true, decide_false, Φp, and_self, true_or, or_true, dite_true, dite_false, Φq, Φr, decide_eq_true_eq, decide_eq_false_iff_not, Φs, Φt, Φu, Φv, beq_self_eq_true, Φw, Φx, Φy, Φz, ΦA, eq_self, VCplan, less_refl_t, less_drop_t, VCops, VQops, guardVC, putVC, VC, VQ, ΦB, ΦC, ΦD, ΦE, ΦF, ΦG, ΦH, List.getElem?_cons_zero, List.getElem?_cons_succ, List.getElem?_nil, List.getElem?_toArray, List.map_cons, List.map_nil, ΦI, ΦJ, ΦK, ΦL, ΦM, ΦN, ΦO, ΦP, ΦQ, ΦR, ΦS, ΦT, ΦU, ΦV, ΦW, ΦX, ΦY, Nat.reduceLT, ΦZ, Nat.reduceAdd, Nat.reduceMul, Nat.reduceSub, Nat.add_zero, Nat.zero_add, Nat.mul_one, exists_eq_left, exists_eq_left', exists_const, existsSome, Nat.zero_le, Nat.le_refl, T.callable_19, hP]
    refine hK6 _ _ ?_
    try clear hK6 K6
    refine SX.seq_k fun K7 hK7 => ?_
    refine SX.seq_k fun K8 hK8 => ?_
    refine SX.region ?_
    simp (maxSteps := 1000000) only [upd_app, Φa, Φb, Φc, ev, Φd, Φe, Φf, Φg, Φh, Φi, Φj, Φk, reduceIte, reduceCtorEq, if_true, if_false, Φl, Φm, Φn, Φo, true_and, and_true, false_and, and_false, true_implies, forall_const, false_implies, ne_eq, not_true_eq_false, not_false_eq_true, decide_true, decide_false, Φp, and_self, true_or, or_true, dite_true, dite_false, Φq, Φr, decide_eq_true_eq, decide_eq_false_iff_not, Φs, Φt, Φu, Φv, beq_self_eq_true, Φw, Φx, Φy, Φz, ΦA, eq_self, VCplan, less_refl_t, less_drop_t, VCops, VQops, guardVC, putVC, VC, VQ, ΦB, ΦC, ΦD, ΦE, ΦF, ΦG, ΦH, List.getElem?_cons_zero, List.getElem?_cons_succ, List.getElem?_nil, List.getElem?_toArray, List.map_cons, List.map_nil, ΦI, ΦJ, ΦK, ΦL, ΦM, ΦN, ΦO, ΦP, ΦQ, ΦR, ΦS, ΦT, ΦU, ΦV, ΦW, ΦX, ΦY, Nat.reduceLT, ΦZ, Nat.reduceAdd, Nat.reduceMul, Nat.reduceSub, Nat.add_zero, Nat.zero_add, Nat.mul_one, exists_eq_left, exists_eq_left', exists_const, existsSome, Nat.zero_le, Nat.le_refl, T.callable_19, hP]
    refine hK8 _ _ ?_
    try clear hK8 K8
    refine SX.block ?_
    refine SX.less (Less.none _) ?_
    refine SX.live [0, 4, 5] (fun T1 hT1 => ?_)
    simp only [forall_mem_cons', forall_mem_nil', upd_app, Φa, Φb, Φc, ev, Φd, Φe, Φf, Φg, Φh, Φi, Φj, Φk, reduceIte, reduceCtorEq, if_true, if_false, Φl, Φm, Φn, Φo, true_and, and_true, false_and, and_false, true_implies, forall_const, false_implies, ne_eq, not_true_eq_false, not_false_eq_true, decide_true, decide_false, Φp, and_self, true_or, or_true, dite_true, dite_false, Φq, Φr, decide_eq_true_eq, decide_eq_false_iff_not, Φs, Φt, Φu, Φv, beq_self_eq_true, Φw, Φx, Φy, Φz, ΦA, eq_self, hP] at hT1
    obtain ⟨h1_0, h1_4, h1_5⟩ := hT1
    refine SX.loop_k (fun (ss : (Nat) × (Value) × (Slot)) T L' => (fun (j : Nat) (v : Value) (s : Slot) => T 4 = v ∧ T 5 = .int .i64 (j : Int) ∧ T 0 = T1 0 ∧ L' = s :: L ∧ (j ≤ 32 ∧ RowI .u8 5 v (chrs page (65 * j)) s)) (ss.1) (ss.2.1) (ss.2.2)) (fun (ss : (Nat) × (Value) × (Slot)) => (fun (j : Nat) (v : Value) (s : Slot) => 32 - j) (ss.1) (ss.2.1) (ss.2.2)) (0, .slice none 0 0, none) ?_ ?_
    · try dsimp only
      refine ⟨?_, ?_, ?_, ?_, ?_⟩
      · first | exact h1_4 | (rw [h1_4]; rfl) | (rw [h1_4]; simp; done)
      · first | exact h1_5 | (rw [h1_5]; rfl) | (rw [h1_5]; simp; done)
      · rfl
      · rfl
      · exact ⟨Nat.zero_le _, RowI.nil _ _⟩
    · intro ss T2 L2 hI K9 hK9
      obtain ⟨j, v, s⟩ := ss
      try dsimp only at hI hK9
      simp only [h1_0] at hI hK9
      obtain ⟨h2_4, h2_5, h2_0, hL2, hj, hrow⟩ := hI
      replace hL2 := hL2.symm
      subst hL2
      clear h1_0 h1_4 h1_5 T1
      refine SX.seq_k fun K10 hK10 => ?_
      refine SX.seq_k fun K11 hK11 => ?_
      refine SX.region ?_
      simp (maxSteps := 1000000) only [upd_app, Φa, Φb, Φc, ev, Φd, Φe, Φf, Φg, Φh, Φi, Φj, Φk, reduceIte, reduceCtorEq, if_true, if_false, Φl, Φm, Φn, Φo, true_and, and_true, false_and, and_false, true_implies, forall_const, false_implies, ne_eq, not_true_eq_false, not_false_eq_true, decide_true, decide_false, Φp, and_self, true_or, or_true, dite_true, dite_false, Φq, Φr, decide_eq_true_eq, decide_eq_false_iff_not, Φs, Φt, Φu, Φv, beq_self_eq_true, Φw, Φx, Φy, Φz, ΦA, eq_self, VCplan, less_refl_t, less_drop_t, VCops, VQops, guardVC, putVC, VC, VQ, ΦB, ΦC, ΦD, ΦE, ΦF, ΦG, ΦH, List.getElem?_cons_zero, List.getElem?_cons_succ, List.getElem?_nil, List.getElem?_toArray, List.map_cons, List.map_nil, ΦI, ΦJ, ΦK, ΦL, ΦM, ΦN, ΦO, ΦP, ΦQ, ΦR, ΦS, ΦT, ΦU, ΦV, ΦW, ΦX, ΦY, Nat.reduceLT, ΦZ, Nat.reduceAdd, Nat.reduceMul, Nat.reduceSub, Nat.add_zero, Nat.zero_add, Nat.mul_one, exists_eq_left, exists_eq_left', exists_const, existsSome, Nat.zero_le, Nat.le_refl, bin_lss, T.callable_19, hP, h2_4, h2_5, h2_0]
      refine hK11 _ _ ?_
      try clear hK11 K11
      refine SX.cond_k fun X12 Y12 hX12 hY12 => ?_
      simp (maxSteps := 1000000) only [upd_app, Φa, Φb, Φc, ev, Φd, Φe, Φf, Φg, Φh, Φi, Φj, Φk, reduceIte, reduceCtorEq, if_true, if_false, Φl, Φm, Φn, Φo, true_and, and_true, false_and, and_false, true_implies, forall_const, false_implies, ne_eq, not_true_eq_false, not_false_eq_true, decide_true, decide_false, Φp, and_self, true_or, or_true, dite_true, dite_false, Φq, Φr, decide_eq_true_eq, decide_eq_false_iff_not, Φs, Φt, Φu, Φv, beq_self_eq_true, Φw, Φx, Φy, Φz, ΦA, eq_self, hP, h2_4, h2_5, h2_0, condVC]
      refine ⟨fun hc11 => hX12 ?_, fun hc11 => hY12 ?_⟩
      · clear hX12 hY12 X12 Y12
        refine SX.skip ?_
        try simp only [Φd, Φe, Φf, Φg, Φh, Φi, Φj, if_true, if_false, reduceIte]
        refine hK10 _ _ ?_
        try clear hK10 K10
        refine SX.seq_k fun K13 hK13 => ?_
        refine SX.block ?_
        refine SX.seq_k fun K14 hK14 => ?_
        refine SX.seq_k fun K15 hK15 => ?_
        refine SX.region ?_
        simp (maxSteps := 1000000) only [upd_app, Φa, Φb, Φc, ev, Φd, Φe, Φf, Φg, Φh, Φi, Φj, Φk, reduceIte, reduceCtorEq, if_true, if_false, Φl, Φm, Φn, Φo, true_and, and_true, false_and, and_false, true_implies, forall_const, false_implies, ne_eq, not_true_eq_false, not_false_eq_true, decide_true, decide_false, Φp, and_self, true_or, or_true, dite_true, dite_false, Φq, Φr, decide_eq_true_eq, decide_eq_false_iff_not, Φs, Φt, Φu, Φv, beq_self_eq_true, Φw, Φx, Φy, Φz, ΦA, eq_self, VCplan, less_refl_t, less_drop_t, VCops, VQops, guardVC, putVC, VC, VQ, ΦB, ΦC, ΦD, ΦE, ΦF, ΦG, ΦH, List.getElem?_cons_zero, List.getElem?_cons_succ, List.getElem?_nil, List.getElem?_toArray, List.map_cons, List.map_nil, ΦI, ΦJ, ΦK, ΦL, ΦM, ΦN, ΦO, ΦP, ΦQ, ΦR, ΦS, ΦT, ΦU, ΦV, ΦW, ΦX, ΦY, Nat.reduceLT, ΦZ, Nat.reduceAdd, Nat.reduceMul, Nat.reduceSub, Nat.add_zero, Nat.zero_add, Nat.mul_one, exists_eq_left, exists_eq_left', exists_const, existsSome, Nat.zero_le, Nat.le_refl, T.callable_19, hP, h2_4, h2_5, h2_0]
        refine hK15 _ _ ?_
        try clear hK15 K15
        refine SX.block ?_
        refine SX.live [0, 4, 5, 6] (fun T3 hT3 => ?_)
        simp only [forall_mem_cons', forall_mem_nil', upd_app, Φa, Φb, Φc, ev, Φd, Φe, Φf, Φg, Φh, Φi, Φj, Φk, reduceIte, reduceCtorEq, if_true, if_false, Φl, Φm, Φn, Φo, true_and, and_true, false_and, and_false, true_implies, forall_const, false_implies, ne_eq, not_true_eq_false, not_false_eq_true, decide_true, decide_false, Φp, and_self, true_or, or_true, dite_true, dite_false, Φq, Φr, decide_eq_true_eq, decide_eq_false_iff_not, Φs, Φt, Φu, Φv, beq_self_eq_true, Φw, Φx, Φy, Φz, ΦA, eq_self, hP, h2_4, h2_5, h2_0] at hT3
        obtain ⟨h3_0, h3_4, h3_5, h3_6⟩ := hT3
        clear h2_4 h2_5 h2_0 T2
        refine SX.loop_k (fun (ss : (Nat) × (Value) × (Slot)) T L' => (fun (i : Nat) (v : Value) (s : Slot) => T 4 = v ∧ T 6 = .int .i64 (i : Int) ∧ T 0 = T3 0 ∧ T 5 = T3 5 ∧ L' = s :: L ∧ (i ≤ 64 ∧ RowI .u8 5 v (chrs page (65 * j + i)) s)) (ss.1) (ss.2.1) (ss.2.2)) (fun (ss : (Nat) × (Value) × (Slot)) => (fun (i : Nat) (v : Value) (s : Slot) => 64 - i) (ss.1) (ss.2.1) (ss.2.2)) (0, v, s) ?_ ?_
        · try dsimp only
          refine ⟨?_, ?_, ?_, ?_, ?_, ?_⟩
          · first | exact h3_4 | (rw [h3_4]; rfl) | (rw [h3_4]; simp; done)
          · first | exact h3_6 | (rw [h3_6]; rfl) | (rw [h3_6]; simp; done)
          · rfl
          · rfl
          · rfl
          · exact ⟨Nat.zero_le _, hrow⟩
        · intro ss T4 L4 hI K16 hK16
          obtain ⟨i, v, s⟩ := ss
          try dsimp only at hI hK16
          simp only [h3_0, h3_5] at hI hK16
          obtain ⟨h4_4, h4_6, h4_0, h4_5, hL4, hi, hrow⟩ := hI
          replace hL4 := hL4.symm
          subst hL4
          clear h3_0 h3_4 h3_5 h3_6 T3
          refine SX.seq_k fun K17 hK17 => ?_
          refine SX.seq_k fun K18 hK18 => ?_
          refine SX.region ?_
          simp (maxSteps := 1000000) only [upd_app, Φa, Φb, Φc, ev, Φd, Φe, Φf, Φg, Φh, Φi, Φj, Φk, reduceIte, reduceCtorEq, if_true, if_false, Φl, Φm, Φn, Φo, true_and, and_true, false_and, and_false, true_implies, forall_const, false_implies, ne_eq, not_true_eq_false, not_false_eq_true, decide_true, decide_false, Φp, and_self, true_or, or_true, dite_true, dite_false, Φq, Φr, decide_eq_true_eq, decide_eq_false_iff_not, Φs, Φt, Φu, Φv, beq_self_eq_true, Φw, Φx, Φy, Φz, ΦA, eq_self, VCplan, less_refl_t, less_drop_t, VCops, VQops, guardVC, putVC, VC, VQ, ΦB, ΦC, ΦD, ΦE, ΦF, ΦG, ΦH, List.getElem?_cons_zero, List.getElem?_cons_succ, List.getElem?_nil, List.getElem?_toArray, List.map_cons, List.map_nil, ΦI, ΦJ, ΦK, ΦL, ΦM, ΦN, ΦO, ΦP, ΦQ, ΦR, ΦS, ΦT, ΦU, ΦV, ΦW, ΦX, ΦY, Nat.reduceLT, ΦZ, Nat.reduceAdd, Nat.reduceMul, Nat.reduceSub, Nat.add_zero, Nat.zero_add, Nat.mul_one, exists_eq_left, exists_eq_left', exists_const, existsSome, Nat.zero_le, Nat.le_refl, bin_lss, T.callable_19, hP, h4_4, h4_6, h4_0, h4_5]
          refine hK18 _ _ ?_
          try clear hK18 K18
          refine SX.cond_k fun X19 Y19 hX19 hY19 => ?_
          simp (maxSteps := 1000000) only [upd_app, Φa, Φb, Φc, ev, Φd, Φe, Φf, Φg, Φh, Φi, Φj, Φk, reduceIte, reduceCtorEq, if_true, if_false, Φl, Φm, Φn, Φo, true_and, and_true, false_and, and_false, true_implies, forall_const, false_implies, ne_eq, not_true_eq_false, not_false_eq_true, decide_true, decide_false, Φp, and_self, true_or, or_true, dite_true, dite_false, Φq, Φr, decide_eq_true_eq, decide_eq_false_iff_not, Φs, Φt, Φu, Φv, beq_self_eq_true, Φw, Φx, Φy, Φz, ΦA, eq_self, hP, h4_4, h4_6, h4_0, h4_5, condVC]
          refine ⟨fun hc15 => hX19 ?_, fun hc15 => hY19 ?_⟩
          · clear hX19 hY19 X19 Y19
            refine SX.skip ?_
            try simp only [Φd, Φe, Φf, Φg, Φh, Φi, Φj, if_true, if_false, reduceIte]
            refine hK17 _ _ ?_
            try clear hK17 K17
            refine SX.seq_k fun K20 hK20 => ?_
            refine SX.block ?_
            refine SX.seq_k fun K21 hK21 => ?_
            refine SX.region ?_
            simp (maxSteps := 1000000) only [upd_app, Φa, Φb, Φc, ev, Φd, Φe, Φf, Φg, Φh, Φi, Φj, Φk, reduceIte, reduceCtorEq, if_true, if_false, Φl, Φm, Φn, Φo, true_and, and_true, false_and, and_false, true_implies, forall_const, false_implies, ne_eq, not_true_eq_false, not_false_eq_true, decide_true, decide_false, Φp, and_self, true_or, or_true, dite_true, dite_false, Φq, Φr, decide_eq_true_eq, decide_eq_false_iff_not, Φs, Φt, Φu, Φv, beq_self_eq_true, Φw, Φx, Φy, Φz, ΦA, eq_self, VCplan, less_refl_t, less_drop_t, VCops, VQops, guardVC, putVC, VC, VQ, ΦB, ΦC, ΦD, ΦE, ΦF, ΦG, ΦH, List.getElem?_cons_zero, List.getElem?_cons_succ, List.getElem?_nil, List.getElem?_toArray, List.map_cons, List.map_nil, ΦI, ΦJ, ΦK, ΦL, ΦM, ΦN, ΦO, ΦP, ΦQ, ΦR, ΦS, ΦT, ΦU, ΦV, ΦW, ΦX, ΦY, Nat.reduceLT, ΦZ, Nat.reduceAdd, Nat.reduceMul, Nat.reduceSub, Nat.add_zero, Nat.zero_add, Nat.mul_one, exists_eq_left, exists_eq_left', exists_const, existsSome, Nat.zero_le, Nat.le_refl, qcall_f, call_f, len_slice, len_str, cap_slice, min_int, max_int, T.elS_25, T.szA_25, T.zr_25, Tryd.underlying25, T.szA_3, T.zr_3, Tryd.underlying3, T.callable_19, hP, h4_4, h4_6, h4_0, h4_5]
            refine SCall.mono (On_spec hP (by omega) (by omega) (SlI.cons _ ha0) hpl) ?_
            rintro v_ L_ ⟨hv_, hL_⟩
            rw [hv_, hL_]
            clear hv_ hL_ v_ L_
            try simp (maxSteps := 1000000) only [upd_app, Φa, Φb, Φc, ev, Φd, Φe, Φf, Φg, Φh, Φi, Φj, Φk, reduceIte, reduceCtorEq, if_true, if_false, Φl, Φm, Φn, Φo, true_and, and_true, false_and, and_false, true_implies, forall_const, false_implies, ne_eq, not_true_eq_false, not_false_eq_true, decide_true, decide_false, Φp, and_self, true_or, or_true, dite_true, dite_false, Φq, Φr, decide_eq_true_eq, decide_eq_false_iff_not, Φs, Φt, Φu, Φv, beq_self_eq_true, Φw, Φx, Φy, Φz, ΦA, eq_self, VCplan, less_refl_t, less_drop_t, VCops, VQops, guardVC, putVC, VC, VQ, ΦB, ΦC, ΦD, ΦE, ΦF, ΦG, ΦH, List.getElem?_cons_zero, List.getElem?_cons_succ, List.getElem?_nil, List.getElem?_toArray, List.map_cons, List.map_nil, ΦI, ΦJ, ΦK, ΦL, ΦM, ΦN, ΦO, ΦP, ΦQ, ΦR, ΦS, ΦT, ΦU, ΦV, ΦW, ΦX, ΦY, Nat.reduceLT, ΦZ, Nat.reduceAdd, Nat.reduceMul, Nat.reduceSub, Nat.add_zero, Nat.zero_add, Nat.mul_one, exists_eq_left, exists_eq_left', exists_const, existsSome, Nat.zero_le, Nat.le_refl, qcall_f, call_f, len_slice, len_str, cap_slice, min_int, max_int, T.elS_25, T.szA_25, T.zr_25, Tryd.underlying25, T.szA_3, T.zr_3, Tryd.underlying3, T.callable_19, hP, h4_4, h4_6, h4_0, h4_5]
            refine hK21 _ _ ?_
            try clear hK21 K21
            refine SX.cond_k fun X22 Y22 hX22 hY22 => ?_
            simp (maxSteps := 1000000) only [upd_app, Φa, Φb, Φc, ev, Φd, Φe, Φf, Φg, Φh, Φi, Φj, Φk, reduceIte, reduceCtorEq, if_true, if_false, Φl, Φm, Φn, Φo, true_and, and_true, false_and, and_false, true_implies, forall_const, false_implies, ne_eq, not_true_eq_false, not_false_eq_true, decide_true, decide_false, Φp, and_self, true_or, or_true, dite_true, dite_false, Φq, Φr, decide_eq_true_eq, decide_eq_false_iff_not, Φs, Φt, Φu, Φv, beq_self_eq_true, Φw, Φx, Φy, Φz, ΦA, eq_self, hP, h4_4, h4_6, h4_0, h4_5, condVC]
            refine ⟨fun hc21 => hX22 ?_, fun hc21 => hY22 ?_⟩
            · clear hX22 hY22 X22 Y22
              refine SX.region ?_
              simp (maxSteps := 1000000) only [upd_app, Φa, Φb, Φc, ev, Φd, Φe, Φf, Φg, Φh, Φi, Φj, Φk, reduceIte, reduceCtorEq, if_true, if_false, Φl, Φm, Φn, Φo, true_and, and_true, false_and, and_false, true_implies, forall_const, false_implies, ne_eq, not_true_eq_false, not_false_eq_true, decide_true, decide_false, Φp, and_self, true_or, or_true, dite_true, dite_false, Φq, Φr, decide_eq_true_eq, decide_eq_false_iff_not, Φs, Φt, Φu, Φv, beq_self_eq_true, Φw, Φx, Φy, Φz, ΦA, eq_self, VCplan, less_refl_t, less_drop_t, VCops, VQops, guardVC, putVC, VC, VQ, ΦB, ΦC, ΦD, ΦE, ΦF, ΦG, ΦH, List.getElem?_cons_zero, List.getElem?_cons_succ, List.getElem?_nil, List.getElem?_toArray, List.map_cons, List.map_nil, ΦI, ΦJ, ΦK, ΦL, ΦM, ΦN, ΦO, ΦP, ΦQ, ΦR, ΦS, ΦT, ΦU, ΦV, ΦW, ΦX, ΦY, Nat.reduceLT, ΦZ, Nat.reduceAdd, Nat.reduceMul, Nat.reduceSub, Nat.add_zero, Nat.zero_add, Nat.mul_one, exists_eq_left, exists_eq_left', exists_const, existsSome, Nat.zero_le, Nat.le_refl, partVC, buildVC, placeL, fillL, setN, inOrd, catV, cells_int, cells_bool, cells_string, cells_pointer, cells_slice, cells_agg, oneB_nil, oneB_cons, one_int, one_bool, one_string, one_pointer, one_slice, one_map, one_func, one_nilFunc, one_nilIface, one_iface, cells_map, cells_func, cells_nilFunc, cells_nilIface, cells_iface, T.elS_25, T.szA_25, T.zr_25, Tryd.underlying25, T.szA_5, T.zr_5, Tryd.underlying5, qcall_f, call_f, len_slice, len_str, cap_slice, min_int, max_int, T.callable_19, hP, h4_4, h4_6, h4_0, h4_5]
              intro bb
              refine YAppend.int1 (i := 0) (hP ▸ T.elS_25) (hP ▸ T.zr_5) rfl rfl hrow (by rw [chrs_len]; omega) (by decide) (fun v2 s2 hrow2 => ?_)
              try simp (maxSteps := 1000000) only [upd_app, Φa, Φb, Φc, ev, Φd, Φe, Φf, Φg, Φh, Φi, Φj, Φk, reduceIte, reduceCtorEq, if_true, if_false, Φl, Φm, Φn, Φo, true_and, and_true, false_and, and_false, true_implies, forall_const, false_implies, ne_eq, not_true_eq_false, not_false_eq_true, decide_true, decide_false, Φp, and_self, true_or, or_true, dite_true, dite_false, Φq, Φr, decide_eq_true_eq, decide_eq_false_iff_not, Φs, Φt, Φu, Φv, beq_self_eq_true, Φw, Φx, Φy, Φz, ΦA, eq_self, VCplan, less_refl_t, less_drop_t, VCops, VQops, guardVC, putVC, VC, VQ, ΦB, ΦC, ΦD, ΦE, ΦF, ΦG, ΦH, List.getElem?_cons_zero, List.getElem?_cons_succ, List.getElem?_nil, List.getElem?_toArray, List.map_cons, List.map_nil, ΦI, ΦJ, ΦK, ΦL, ΦM, ΦN, ΦO, ΦP, ΦQ, ΦR, ΦS, ΦT, ΦU, ΦV, ΦW, ΦX, ΦY, Nat.reduceLT, ΦZ, Nat.reduceAdd, Nat.reduceMul, Nat.reduceSub, Nat.add_zero, Nat.zero_add, Nat.mul_one, exists_eq_left, exists_eq_left', exists_const, existsSome, Nat.zero_le, Nat.le_refl, partVC, buildVC, placeL, fillL, setN, inOrd, catV, cells_int, cells_bool, cells_string, cells_pointer, cells_slice, cells_agg, oneB_nil, oneB_cons, one_int, one_bool, one_string, one_pointer, one_slice, one_map, one_func, one_nilFunc, one_nilIface, one_iface, cells_map, cells_func, cells_nilFunc, cells_nilIface, cells_iface, T.elS_25, T.szA_25, T.zr_25, Tryd.underlying25, T.szA_5, T.zr_5, Tryd.underlying5, qcall_f, call_f, len_slice, len_str, cap_slice, min_int, max_int, T.callable_19, hP, h4_4, h4_6, h4_0, h4_5]
              refine hK20 _ _ ?_
              try clear hK20 K20
              refine SX.live [0, 4, 5, 6] (fun T5 hT5 => ?_)
              simp only [forall_mem_cons', forall_mem_nil', upd_app, Φa, Φb, Φc, ev, Φd, Φe, Φf, Φg, Φh, Φi, Φj, Φk, reduceIte, reduceCtorEq, if_true, if_false, Φl, Φm, Φn, Φo, true_and, and_true, false_and, and_false, true_implies, forall_const, false_implies, ne_eq, not_true_eq_false, not_false_eq_true, decide_true, decide_false, Φp, and_self, true_or, or_true, dite_true, dite_false, Φq, Φr, decide_eq_true_eq, decide_eq_false_iff_not, Φs, Φt, Φu, Φv, beq_self_eq_true, Φw, Φx, Φy, Φz, ΦA, eq_self, hP, h4_4, h4_6, h4_0, h4_5] at hT5
              obtain ⟨h5_0, h5_4, h5_5, h5_6⟩ := hT5
              clear h4_4 h4_6 h4_0 h4_5 T4
              refine SX.region ?_
              simp (maxSteps := 1000000) only [upd_app, Φa, Φb, Φc, ev, Φd, Φe, Φf, Φg, Φh, Φi, Φj, Φk, reduceIte, reduceCtorEq, if_true, if_false, Φl, Φm, Φn, Φo, true_and, and_true, false_and, and_false, true_implies, forall_const, false_implies, ne_eq, not_true_eq_false, not_false_eq_true, decide_true, decide_false, Φp, and_self, true_or, or_true, dite_true, dite_false, Φq, Φr, decide_eq_true_eq, decide_eq_false_iff_not, Φs, Φt, Φu, Φv, beq_self_eq_true, Φw, Φx, Φy, Φz, ΦA, eq_self, VCplan, less_refl_t, less_drop_t, VCops, VQops, guardVC, putVC, VC, VQ, ΦB, ΦC, ΦD, ΦE, ΦF, ΦG, ΦH, List.getElem?_cons_zero, List.getElem?_cons_succ, List.getElem?_nil, List.getElem?_toArray, List.map_cons, List.map_nil, ΦI, ΦJ, ΦK, ΦL, ΦM, ΦN, ΦO, ΦP, ΦQ, ΦR, ΦS, ΦT, ΦU, ΦV, ΦW, ΦX, ΦY, Nat.reduceLT, ΦZ, Nat.reduceAdd, Nat.reduceMul, Nat.reduceSub, Nat.add_zero, Nat.zero_add, Nat.mul_one, exists_eq_left, exists_eq_left', exists_const, existsSome, Nat.zero_le, Nat.le_refl, bin_add, bin_adds, T.callable_19, hP, h5_0, h5_4, h5_5, h5_6]
              refine hK16 (i + 1, v2, s2) _ (s2 :: L) _ (by first | exact Less.refl _ | exact Less.drop _ _ | exact Less.drops (Less.drop _ _) | exact Less.drops (Less.drops (Less.drop _ _)) | exact Less.drops (Less.drops (Less.drops (Less.drop _ _))) | exact Less.drops (Less.drops (Less.drops (Less.drops (Less.drop _ _))))) ?_ ?_
              · try dsimp only
                refine ⟨?_, ?_, ?_, ?_, ?_, ?_⟩
                · simp (maxSteps := 1000000) only [upd_app, Φa, Φb, Φc, ev, Φd, Φe, Φf, Φg, Φh, Φi, Φj, Φk, reduceIte, reduceCtorEq, if_true, if_false, Φl, Φm, Φn, Φo, true_and, and_true, false_and, and_false, true_implies, forall_const, false_implies, ne_eq, not_true_eq_false, not_false_eq_true, decide_true, decide_false, Φp, and_self, true_or, or_true, dite_true, dite_false, Φq, Φr, decide_eq_true_eq, decide_eq_false_iff_not, Φs, Φt, Φu, Φv, beq_self_eq_true, Φw, Φx, Φy, Φz, ΦA, eq_self, hP, h5_0, h5_4, h5_5, h5_6]
                  first | done | rfl | skip
                · simp (maxSteps := 1000000) only [upd_app, Φa, Φb, Φc, ev, Φd, Φe, Φf, Φg, Φh, Φi, Φj, Φk, reduceIte, reduceCtorEq, if_true, if_false, Φl, Φm, Φn, Φo, true_and, and_true, false_and, and_false, true_implies, forall_const, false_implies, ne_eq, not_true_eq_false, not_false_eq_true, decide_true, decide_false, Φp, and_self, true_or, or_true, dite_true, dite_false, Φq, Φr, decide_eq_true_eq, decide_eq_false_iff_not, Φs, Φt, Φu, Φv, beq_self_eq_true, Φw, Φx, Φy, Φz, ΦA, eq_self, hP, h5_0, h5_4, h5_5, h5_6]
                  rw [inc64 (by omega)]
                · simp (maxSteps := 1000000) only [upd_app, Φa, Φb, Φc, ev, Φd, Φe, Φf, Φg, Φh, Φi, Φj, Φk, reduceIte, reduceCtorEq, if_true, if_false, Φl, Φm, Φn, Φo, true_and, and_true, false_and, and_false, true_implies, forall_const, false_implies, ne_eq, not_true_eq_false, not_false_eq_true, decide_true, decide_false, Φp, and_self, true_or, or_true, dite_true, dite_false, Φq, Φr, decide_eq_true_eq, decide_eq_false_iff_not, Φs, Φt, Φu, Φv, beq_self_eq_true, Φw, Φx, Φy, Φz, ΦA, eq_self, hP, h5_0, h5_4, h5_5, h5_6]
                · simp (maxSteps := 1000000) only [upd_app, Φa, Φb, Φc, ev, Φd, Φe, Φf, Φg, Φh, Φi, Φj, Φk, reduceIte, reduceCtorEq, if_true, if_false, Φl, Φm, Φn, Φo, true_and, and_true, false_and, and_false, true_implies, forall_const, false_implies, ne_eq, not_true_eq_false, not_false_eq_true, decide_true, decide_false, Φp, and_self, true_or, or_true, dite_true, dite_false, Φq, Φr, decide_eq_true_eq, decide_eq_false_iff_not, Φs, Φt, Φu, Φv, beq_self_eq_true, Φw, Φx, Φy, Φz, ΦA, eq_self, hP, h5_0, h5_4, h5_5, h5_6]
                · rfl
                · refine ⟨by omega, ?_⟩
                  have hcp := chr_pix hgd (show i < 64 by omega) (show j < 32 by omega)
                  rw [hc21, if_pos rfl] at hcp
                  rw [← hcp, ← chrs_succ] at hrow2
                  exact hrow2
              · (try dsimp only); omega
            · clear hX22 hY22 X22 Y22
              refine SX.region ?_
              simp (maxSteps := 1000000) only [upd_app, Φa, Φb, Φc, ev, Φd, Φe, Φf, Φg, Φh, Φi, Φj, Φk, reduceIte, reduceCtorEq, if_true, if_false, Φl, Φm, Φn, Φo, true_and, and_true, false_and, and_false, true_implies, forall_const, false_implies, ne_eq, not_true_eq_false, not_false_eq_true, decide_true, decide_false, Φp, and_self, true_or, or_true, dite_true, dite_false, Φq, Φr, decide_eq_true_eq, decide_eq_false_iff_not, Φs, Φt, Φu, Φv, beq_self_eq_true, Φw, Φx, Φy, Φz, ΦA, eq_self, VCplan, less_refl_t, less_drop_t, VCops, VQops, guardVC, putVC, VC, VQ, ΦB, ΦC, ΦD, ΦE, ΦF, ΦG, ΦH, List.getElem?_cons_zero, List.getElem?_cons_succ, List.getElem?_nil, List.getElem?_toArray, List.map_cons, List.map_nil, ΦI, ΦJ, ΦK, ΦL, ΦM, ΦN, ΦO, ΦP, ΦQ, ΦR, ΦS, ΦT, ΦU, ΦV, ΦW, ΦX, ΦY, Nat.reduceLT, ΦZ, Nat.reduceAdd, Nat.reduceMul, Nat.reduceSub, Nat.add_zero, Nat.zero_add, Nat.mul_one, exists_eq_left, exists_eq_left', exists_const, existsSome, Nat.zero_le, Nat.le_refl, partVC, buildVC, placeL, fillL, setN, inOrd, catV, cells_int, cells_bool, cells_string, cells_pointer, cells_slice, cells_agg, oneB_nil, oneB_cons, one_int, one_bool, one_string, one_pointer, one_slice, one_map, one_func, one_nilFunc, one_nilIface, one_iface, cells_map, cells_func, cells_nilFunc, cells_nilIface, cells_iface, T.elS_25, T.szA_25, T.zr_25, Tryd.underlying25, T.szA_5, T.zr_5, Tryd.underlying5, qcall_f, call_f, len_slice, len_str, cap_slice, min_int, max_int, T.callable_19, hP, h4_4, h4_6, h4_0, h4_5]
              intro bb
              refine YAppend.int1 (i := 0) (hP ▸ T.elS_25) (hP ▸ T.zr_5) rfl rfl hrow (by rw [chrs_len]; omega) (by decide) (fun v2 s2 hrow2 => ?_)
              try simp (maxSteps := 1000000) only [upd_app, Φa, Φb, Φc, ev, Φd, Φe, Φf, Φg, Φh, Φi, Φj, Φk, reduceIte, reduceCtorEq, if_true, if_false, Φl, Φm, Φn, Φo, true_and, and_true, false_and, and_false, true_implies, forall_const, false_implies, ne_eq, not_true_eq_false, not_false_eq_true, decide_true, decide_false, Φp, and_self, true_or, or_true, dite_true, dite_false, Φq, Φr, decide_eq_true_eq, decide_eq_false_iff_not, Φs, Φt, Φu, Φv, beq_self_eq_true, Φw, Φx, Φy, Φz, ΦA, eq_self, VCplan, less_refl_t, less_drop_t, VCops, VQops, guardVC, putVC, VC, VQ, ΦB, ΦC, ΦD, ΦE, ΦF, ΦG, ΦH, List.getElem?_cons_zero, List.getElem?_cons_succ, List.getElem?_nil, List.getElem?_toArray, List.map_cons, List.map_nil, ΦI, ΦJ, ΦK, ΦL, ΦM, ΦN, ΦO, ΦP, ΦQ, ΦR, ΦS, ΦT, ΦU, ΦV, ΦW, ΦX, ΦY, Nat.reduceLT, ΦZ, Nat.reduceAdd, Nat.reduceMul, Nat.reduceSub, Nat.add_zero, Nat.zero_add, Nat.mul_one, exists_eq_left, exists_eq_left', exists_const, existsSome, Nat.zero_le, Nat.le_refl, partVC, buildVC, placeL, fillL, setN, inOrd, catV, cells_int, cells_bool, cells_string, cells_pointer, cells_slice, cells_agg, oneB_nil, oneB_cons, one_int, one_bool, one_string, one_pointer, one_slice, one_map, one_func, one_nilFunc, one_nilIface, one_iface, cells_map, cells_func, cells_nilFunc, cells_nilIface, cells_iface, T.elS_25, T.szA_25, T.zr_25, Tryd.underlying25, T.szA_5, T.zr_5, Tryd.underlying5, qcall_f, call_f, len_slice, len_str, cap_slice, min_int, max_int, T.callable_19, hP, h4_4, h4_6, h4_0, h4_5]
              refine hK20 _ _ ?_
              try clear hK20 K20
              refine SX.live [0, 4, 5, 6] (fun T6 hT6 => ?_)
              simp only [forall_mem_cons', forall_mem_nil', upd_app, Φa, Φb, Φc, ev, Φd, Φe, Φf, Φg, Φh, Φi, Φj, Φk, reduceIte, reduceCtorEq, if_true, if_false, Φl, Φm, Φn, Φo, true_and, and_true, false_and, and_false, true_implies, forall_const, false_implies, ne_eq, not_true_eq_false, not_false_eq_true, decide_true, decide_false, Φp, and_self, true_or, or_true, dite_true, dite_false, Φq, Φr, decide_eq_true_eq, decide_eq_false_iff_not, Φs, Φt, Φu, Φv, beq_self_eq_true, Φw, Φx, Φy, Φz, ΦA, eq_self, hP, h4_4, h4_6, h4_0, h4_5] at hT6
              obtain ⟨h6_0, h6_4, h6_5, h6_6⟩ := hT6
              clear h4_4 h4_6 h4_0 h4_5 T4
              refine SX.region ?_
              simp (maxSteps := 1000000) only [upd_app, Φa, Φb, Φc, ev, Φd, Φe, Φf, Φg, Φh, Φi, Φj, Φk, reduceIte, reduceCtorEq, if_true, if_false, Φl, Φm, Φn, Φo, true_and, and_true, false_and, and_false, true_implies, forall_const, false_implies, ne_eq, not_true_eq_false, not_false_eq_true, decide_true, decide_false, Φp, and_self, true_or, or_true, dite_true, dite_false, Φq, Φr, decide_eq_true_eq, decide_eq_false_iff_not, Φs, Φt, Φu, Φv, beq_self_eq_true, Φw, Φx, Φy, Φz, ΦA, eq_self, VCplan, less_refl_t, less_drop_t, VCops, VQops, guardVC, putVC, VC, VQ, ΦB, ΦC, ΦD, ΦE, ΦF, ΦG, ΦH, List.getElem?_cons_zero, List.getElem?_cons_succ, List.getElem?_nil, List.getElem?_toArray, List.map_cons, List.map_nil, ΦI, ΦJ, ΦK, ΦL, ΦM, ΦN, ΦO, ΦP, ΦQ, ΦR, ΦS, ΦT, ΦU, ΦV, ΦW, ΦX, ΦY, Nat.reduceLT, ΦZ, Nat.reduceAdd, Nat.reduceMul, Nat.reduceSub, Nat.add_zero, Nat.zero_add, Nat.mul_one, exists_eq_left, exists_eq_left', exists_const, existsSome, Nat.zero_le, Nat.le_refl, bin_add, bin_adds, T.callable_19, hP, h6_0, h6_4, h6_5, h6_6]
              refine hK16 (i + 1, v2, s2) _ (s2 :: L) _ (by first | exact Less.refl _ | exact Less.drop _ _ | exact Less.drops (Less.drop _ _) | exact Less.drops (Less.drops (Less.drop _ _)) | exact Less.drops (Less.drops (Less.drops (Less.drop _ _))) | exact Less.drops (Less.drops (Less.drops (Less.drops (Less.drop _ _))))) ?_ ?_
              · try dsimp only
                refine ⟨?_, ?_, ?_, ?_, ?_, ?_⟩
                · simp (maxSteps := 1000000) only [upd_app, Φa, Φb, Φc, ev, Φd, Φe, Φf, Φg, Φh, Φi, Φj, Φk, reduceIte, reduceCtorEq, if_true, if_false, Φl, Φm, Φn, Φo, true_and, and_true, false_and, and_false, true_implies, forall_const, false_implies, ne_eq, not_true_eq_false, not_false_eq_true, decide_true, decide_false, Φp, and_self, true_or, or_true, dite_true, dite_false, Φq, Φr, decide_eq_true_eq, decide_eq_false_iff_not, Φs, Φt, Φu, Φv, beq_self_eq_true, Φw, Φx, Φy, Φz, ΦA, eq_self, hP, h6_0, h6_4, h6_5, h6_6]
                  first | done | rfl | skip
                · simp (maxSteps := 1000000) only [upd_app, Φa, Φb, Φc, ev, Φd, Φe, Φf, Φg, Φh, Φi, Φj, Φk, reduceIte, reduceCtorEq, if_true, if_false, Φl, Φm, Φn, Φo, true_and, and_true, false_and, and_false, true_implies, forall_const, false_implies, ne_eq, not_true_eq_false, not_false_eq_true, decide_true, decide_false, Φp, and_self, true_or, or_true, dite_true, dite_false, Φq, Φr, decide_eq_true_eq, decide_eq_false_iff_not, Φs, Φt, Φu, Φv, beq_self_eq_true, Φw, Φx, Φy, Φz, ΦA, eq_self, hP, h6_0, h6_4, h6_5, h6_6]
                  rw [inc64 (by omega)]
                · simp (maxSteps := 1000000) only [upd_app, Φa, Φb, Φc, ev, Φd, Φe, Φf, Φg, Φh, Φi, Φj, Φk, reduceIte, reduceCtorEq, if_true, if_false, Φl, Φm, Φn, Φo, true_and, and_true, false_and, and_false, true_implies, forall_const, false_implies, ne_eq, not_true_eq_false, not_false_eq_true, decide_true, decide_false, Φp, and_self, true_or, or_true, dite_true, dite_false, Φq, Φr, decide_eq_true_eq, decide_eq_false_iff_not, Φs, Φt, Φu, Φv, beq_self_eq_true, Φw, Φx, Φy, Φz, ΦA, eq_self, hP, h6_0, h6_4, h6_5, h6_6]
                · simp (maxSteps := 1000000) only [upd_app, Φa, Φb, Φc, ev, Φd, Φe, Φf, Φg, Φh, Φi, Φj, Φk, reduceIte, reduceCtorEq, if_true, if_false, Φl, Φm, Φn, Φo, true_and, and_true, false_and, and_false, true_implies, forall_const, false_implies, ne_eq, not_true_eq_false, not_false_eq_true, decide_true, decide_false, Φp, and_self, true_or, or_true, dite_true, dite_false, Φq, Φr, decide_eq_true_eq, decide_eq_false_iff_not, Φs, Φt, Φu, Φv, beq_self_eq_true, Φw, Φx, Φy, Φz, ΦA, eq_self, hP, h6_0, h6_4, h6_5, h6_6]
                · rfl
                · refine ⟨by omega, ?_⟩
                  have hcp := chr_pix hgd (show i < 64 by omega) (show j < 32 by omega)
                  rw [hc21, if_neg (by decide)] at hcp
                  rw [← hcp, ← chrs_succ] at hrow2
                  exact hrow2
              · (try dsimp only); omega
          · clear hX19 hY19 X19 Y19
            refine SX.exit ?_
            try simp only [Φd, Φe, Φf, Φg, Φh, Φi, Φj, if_true, if_false, reduceIte]
            refine hK14 _ _ ?_
            try clear hK14 K14
            obtain rfl : i = 64 := by omega
            refine SX.region ?_
            simp (maxSteps := 1000000) only [upd_app, Φa, Φb, Φc, ev, Φd, Φe, Φf, Φg, Φh, Φi, Φj, Φk, reduceIte, reduceCtorEq, if_true, if_false, Φl, Φm, Φn, Φo, true_and, and_true, false_and, and_false, true_implies, forall_const, false_implies, ne_eq, not_true_eq_false, not_false_eq_true, decide_true, decide_false, Φp, and_self, true_or, or_true, dite_true, dite_false, Φq, Φr, decide_eq_true_eq, decide_eq_false_iff_not, Φs, Φt, Φu, Φv, beq_self_eq_true, Φw, Φx, Φy, Φz, ΦA, eq_self, VCplan, less_refl_t, less_drop_t, VCops, VQops, guardVC, putVC, VC, VQ, ΦB, ΦC, ΦD, ΦE, ΦF, ΦG, ΦH, List.getElem?_cons_zero, List.getElem?_cons_succ, List.getElem?_nil, List.getElem?_toArray, List.map_cons, List.map_nil, ΦI, ΦJ, ΦK, ΦL, ΦM, ΦN, ΦO, ΦP, ΦQ, ΦR, ΦS, ΦT, ΦU, ΦV, ΦW, ΦX, ΦY, Nat.reduceLT, ΦZ, Nat.reduceAdd, Nat.reduceMul, Nat.reduceSub, Nat.add_zero, Nat.zero_add, Nat.mul_one, exists_eq_left, exists_eq_left', exists_const, existsSome, Nat.zero_le, Nat.le_refl, partVC, buildVC, placeL, fillL, setN, inOrd, catV, cells_int, cells_bool, cells_string, cells_pointer, cells_slice, cells_agg, oneB_nil, oneB_cons, one_int, one_bool, one_string, one_pointer, one_slice, one_map, one_func, one_nilFunc, one_nilIface, one_iface, cells_map, cells_func, cells_nilFunc, cells_nilIface, cells_iface, T.elS_25, T.szA_25, T.zr_25, Tryd.underlying25, T.szA_5, T.zr_5, Tryd.underlying5, qcall_f, call_f, len_slice, len_str, cap_slice, min_int, max_int, T.callable_19, hP, h4_4, h4_6, h4_0, h4_5]
            intro bb
            refine YAppend.int1 (i := 0) (hP ▸ T.elS_25) (hP ▸ T.zr_5) rfl rfl hrow (by rw [chrs_len]; omega) (by decide) (fun v2 s2 hrow2 => ?_)
            try simp (maxSteps := 1000000) only [upd_app, Φa, Φb, Φc, ev, Φd, Φe, Φf, Φg, Φh, Φi, Φj, Φk, reduceIte, reduceCtorEq, if_true, if_false, Φl, Φm, Φn, Φo, true_and, and_true, false_and, and_false, true_implies, forall_const, false_implies, ne_eq, not_true_eq_false, not_false_eq_true, decide_true, decide_false, Φp, and_self, true_or, or_true, dite_true, dite_false, Φq, Φr, decide_eq_true_eq, decide_eq_false_iff_not, Φs, Φt, Φu, Φv, beq_self_eq_true, Φw, Φx, Φy, Φz, ΦA, eq_self, VCplan, less_refl_t, less_drop_t, VCops, VQops, guardVC, putVC, VC, VQ, ΦB, ΦC, ΦD, ΦE, ΦF, ΦG, ΦH, List.getElem?_cons_zero, List.getElem?_cons_succ, List.getElem?_nil, List.getElem?_toArray, List.map_cons, List.map_nil, ΦI, ΦJ, ΦK, ΦL, ΦM, ΦN, ΦO, ΦP, ΦQ, ΦR, ΦS, ΦT, ΦU, ΦV, ΦW, ΦX, ΦY, Nat.reduceLT, ΦZ, Nat.reduceAdd, Nat.reduceMul, Nat.reduceSub, Nat.add_zero, Nat.zero_add, Nat.mul_one, exists_eq_left, exists_eq_left', exists_const, existsSome, Nat.zero_le, Nat.le_refl, partVC, buildVC, placeL, fillL, setN, inOrd, catV, cells_int, cells_bool, cells_string, cells_pointer, cells_slice, cells_agg, oneB_nil, oneB_cons, one_int, one_bool, one_string, one_pointer, one_slice, one_map, one_func, one_nilFunc, one_nilIface, one_iface, cells_map, cells_func, cells_nilFunc, cells_nilIface, cells_iface, T.elS_25, T.szA_25, T.zr_25, Tryd.underlying25, T.szA_5, T.zr_5, Tryd.underlying5, qcall_f, call_f, len_slice, len_str, cap_slice, min_int, max_int, T.callable_19, hP, h4_4, h4_6, h4_0, h4_5]
            refine hK13 _ _ ?_
            try clear hK13 K13
            refine SX.region ?_
            simp (maxSteps := 1000000) only [upd_app, Φa, Φb, Φc, ev, Φd, Φe, Φf, Φg, Φh, Φi, Φj, Φk, reduceIte, reduceCtorEq, if_true, if_false, Φl, Φm, Φn, Φo, true_and, and_true, false_and, and_false, true_implies, forall_const, false_implies, ne_eq, not_true_eq_false, not_false_eq_true, decide_true, decide_false, Φp, and_self, true_or, or_true, dite_true, dite_false, Φq, Φr, decide_eq_true_eq, decide_eq_false_iff_not, Φs, Φt, Φu, Φv, beq_self_eq_true, Φw, Φx, Φy, Φz, ΦA, eq_self, VCplan, less_refl_t, less_drop_t, VCops, VQops, guardVC, putVC, VC, VQ, ΦB, ΦC, ΦD, ΦE, ΦF, ΦG, ΦH, List.getElem?_cons_zero, List.getElem?_cons_succ, List.getElem?_nil, List.getElem?_toArray, List.map_cons, List.map_nil, ΦI, ΦJ, ΦK, ΦL, ΦM, ΦN, ΦO, ΦP, ΦQ, ΦR, ΦS, ΦT, ΦU, ΦV, ΦW, ΦX, ΦY, Nat.reduceLT, ΦZ, Nat.reduceAdd, Nat.reduceMul, Nat.reduceSub, Nat.add_zero, Nat.zero_add, Nat.mul_one, exists_eq_left, exists_eq_left', exists_const, existsSome, Nat.zero_le, Nat.le_refl, bin_add, bin_adds, T.callable_19, hP, h4_4, h4_6, h4_0, h4_5]
            refine hK9 (j + 1, v2, s2) _ (s2 :: L) _ (by first | exact Less.refl _ | exact Less.drop _ _ | exact Less.drops (Less.drop _ _) | exact Less.drops (Less.drops (Less.drop _ _)) | exact Less.drops (Less.drops (Less.drops (Less.drop _ _))) | exact Less.drops (Less.drops (Less.drops (Less.drops (Less.drop _ _))))) ?_ ?_
            · try dsimp only
              refine ⟨?_, ?_, ?_, ?_, ?_⟩
              · simp (maxSteps := 1000000) only [upd_app, Φa, Φb, Φc, ev, Φd, Φe, Φf, Φg, Φh, Φi, Φj, Φk, reduceIte, reduceCtorEq, if_true, if_false, Φl, Φm, Φn, Φo, true_and, and_true, false_and, and_false, true_implies, forall_const, false_implies, ne_eq, not_true_eq_false, not_false_eq_true, decide_true, decide_false, Φp, and_self, true_or, or_true, dite_true, dite_false, Φq, Φr, decide_eq_true_eq, decide_eq_false_iff_not, Φs, Φt, Φu, Φv, beq_self_eq_true, Φw, Φx, Φy, Φz, ΦA, eq_self, hP, h4_4, h4_6, h4_0, h4_5]
                first | done | rfl | skip
              · simp (maxSteps := 1000000) only [upd_app, Φa, Φb, Φc, ev, Φd, Φe, Φf, Φg, Φh, Φi, Φj, Φk, reduceIte, reduceCtorEq, if_true, if_false, Φl, Φm, Φn, Φo, true_and, and_true, false_and, and_false, true_implies, forall_const, false_implies, ne_eq, not_true_eq_false, not_false_eq_true, decide_true, decide_false, Φp, and_self, true_or, or_true, dite_true, dite_false, Φq, Φr, decide_eq_true_eq, decide_eq_false_iff_not, Φs, Φt, Φu, Φv, beq_self_eq_true, Φw, Φx, Φy, Φz, ΦA, eq_self, hP, h4_4, h4_6, h4_0, h4_5]
                rw [inc64 (by omega)]
              · simp (maxSteps := 1000000) only [upd_app, Φa, Φb, Φc, ev, Φd, Φe, Φf, Φg, Φh, Φi, Φj, Φk, reduceIte, reduceCtorEq, if_true, if_false, Φl, Φm, Φn, Φo, true_and, and_true, false_and, and_false, true_implies, forall_const, false_implies, ne_eq, not_true_eq_false, not_false_eq_true, decide_true, decide_false, Φp, and_self, true_or, or_true, dite_true, dite_false, Φq, Φr, decide_eq_true_eq, decide_eq_false_iff_not, Φs, Φt, Φu, Φv, beq_self_eq_true, Φw, Φx, Φy, Φz, ΦA, eq_self, hP, h4_4, h4_6, h4_0, h4_5]
              · rfl
              · refine ⟨by omega, ?_⟩
                rw [← chr_end page j, ← chrs_succ] at hrow2
                exact hrow2
            · (try dsimp only); omega
      · clear hX12 hY12 X12 Y12
        refine SX.exit ?_
        try simp only [Φd, Φe, Φf, Φg, Φh, Φi, Φj, if_true, if_false, reduceIte]
        refine hK7 _ _ ?_
        try clear hK7 K7
        refine SX.seq_k fun K23 hK23 => ?_
        obtain rfl : j = 32 := by omega
        refine SX.region ?_
        simp (maxSteps := 1000000) only [upd_app, Φa, Φb, Φc, ev, Φd, Φe, Φf, Φg, Φh, Φi, Φj, Φk, reduceIte, reduceCtorEq, if_true, if_false, Φl, Φm, Φn, Φo, true_and, and_true, false_and, and_false, true_implies, forall_const, false_implies, ne_eq, not_true_eq_false, not_false_eq_true, decide_true, decide_false, Φp, and_self, true_or, or_true, dite_true, dite_false, Φq, Φr, decide_eq_true_eq, decide_eq_false_iff_not, Φs, Φt, Φu, Φv, beq_self_eq_true, Φw, Φx, Φy, Φz, ΦA, eq_self, VCplan, less_refl_t, less_drop_t, VCops, VQops, guardVC, putVC, VC, VQ, ΦB, ΦC, ΦD, ΦE, ΦF, ΦG, ΦH, List.getElem?_cons_zero, List.getElem?_cons_succ, List.getElem?_nil, List.getElem?_toArray, List.map_cons, List.map_nil, ΦI, ΦJ, ΦK, ΦL, ΦM, ΦN, ΦO, ΦP, ΦQ, ΦR, ΦS, ΦT, ΦU, ΦV, ΦW, ΦX, ΦY, Nat.reduceLT, ΦZ, Nat.reduceAdd, Nat.reduceMul, Nat.reduceSub, Nat.add_zero, Nat.zero_add, Nat.mul_one, exists_eq_left, exists_eq_left', exists_const, existsSome, Nat.zero_le, Nat.le_refl, conv_int, conv_slice, conv_nil, cv_str, cv_int, cv_slice, T.elS_25, T.szA_25, T.zr_25, Tryd.underlying25, T.szA_9, T.zr_9, Tryd.underlying9, T.szA_5, T.zr_5, Tryd.underlying5, T.callable_19, hP, h2_4, h2_5, h2_0]
        refine cv_row (hP ▸ Tryd.underlying25) (hP ▸ Tryd.underlying9) (hP ▸ Tryd.underlying5) (RowI.sl (L := s :: L) (i := 0) hrow rfl) (by rw [chrs_all]; exact showTo_byte page 256) ?_
        refine hK23 _ _ ?_
        try clear hK23 K23
        refine SX.ret ?_
        simp only [Φd, Φe, Φf, Φg, Φh, Φi, Φj, if_true, if_false, reduceIte, retQ_ret]
        try simp only [res0, res1, res2, res3, upd_app, Φa, Φb, Φc, ev, Φd, Φe, Φf, Φg, Φh, Φi, Φj, Φk, reduceIte, reduceCtorEq, if_true, if_false, Φl, Φm, Φn, Φo, true_and, and_true, false_and, and_false, true_implies, forall_const, false_implies, ne_eq, not_true_eq_false, not_false_eq_true, decide_true, decide_false, Φp, and_self, true_or, or_true, dite_true, dite_false, Φq, Φr, decide_eq_true_eq, decide_eq_false_iff_not, Φs, Φt, Φu, Φv, beq_self_eq_true, Φw, Φx, Φy, Φz, ΦA, eq_self, hP, h2_4, h2_5, h2_0]
        exact ⟨_, L, (by first | exact Less.refl _ | exact Less.drop _ _ | exact Less.drops (Less.drop _ _) | exact Less.drops (Less.drops (Less.drop _ _)) | exact Less.drops (Less.drops (Less.drops (Less.drop _ _))) | exact Less.drops (Less.drops (Less.drops (Less.drops (Less.drop _ _))))), rfl, by rw [showS, showE, if_pos hpl, if_pos hpl, ← chrs_all], rfl⟩

/-- What reading tells. -/
def readG (l : List Int) (L : Hp) (v : Value) (L' : Hp) : Prop :=
  ∃ va s, RowI .u8 5 va ((readAll l).getD []) s ∧ v = .tuple #[va, .int .i64 (if (readAll l).isSome then 0 else 1)] ∧ L' = s :: L
theorem Read_specG {Γ : Ctx} (hP : Γ.P = Tryd.prog) {L : Hp} {s : ByteArray} {l : List Int} (hl : l = nums8 s) (hm : s.size ≤ 9223372036854775807) : SCall Γ 15 #[.string s] L (readG l L) := by
  refine SCall.less (Read_spec hP hl hm) fun v L' h => ?_
  unfold readR at h
  cases hr : readAll l with
  | some out =>
    rw [hr] at h
    obtain ⟨b, rfl, rfl⟩ := h
    have hlen : out.length = 256 := by
      unfold readAll at hr
      split at hr
      · exact readTo_length hr
      · cases hr
    refine ⟨_, Less.refl _, _, _, ?_, by rw [hr]; rfl, rfl⟩
    rw [hr]
    have := RowI.mk2 (e := 5) (r := b) (l := out) (k := .u8) (cap := 256) (junk := []) (by omega) (by rw [hlen]; rfl)
    rw [hlen, List.append_nil] at this
    exact this
  | none =>
    rw [hr] at h
    obtain ⟨rfl, rfl⟩ := h
    exact ⟨_, Less.none _, _, none, by rw [hr]; exact RowI.nil _ _, by rw [hr]; rfl, rfl⟩
theorem turnTo_len (l : List Int) (m : Nat) : (turnTo l m).length = 256 := (turnTo_good l m).len
theorem turnTo_skip {l : List Int} {m : Nat} (h : ¬ (l.getD m 0 = 35 ∧ m % 65 < 64)) : turnTo l (m + 1) = turnTo l m := if_neg h
theorem turnTo_put {l : List Int} {i j : Nat} (hi : i < 64) (hj : j < 32) (h : l.getD (65 * j + i) 0 = 35) : turnTo l (65 * j + i + 1) = (turnTo l (65 * j + i)).set (8 * j + i / 8) (bits .xor .u8 ((turnTo l (65 * j + i)).getD (8 * j + i / 8) 0) (bitOf i)) := by
  rw [turnTo, if_pos ⟨h, by omega⟩, show (65 * j + i) % 65 = i by omega, show (65 * j + i) / 65 = j by omega, putDot_put hi hj]
set_option maxHeartbeats 1000000 in
set_option maxRecDepth 100000 in
theorem refRead_spec {Γ : Ctx} (hP : Γ.P = Tryd.prog) {L : Hp} {s : ByteArray} {l : List Int} (hl : l = nums8 s) (hm : s.size ≤ 9223372036854775807) :
    SCall Γ 16 #[(.string s)] L (readG l L) := by
  have hsz : s.size = l.length := by rw [hl, nums8_length]
  have hno : ¬ l.length = 2080 → readAll l = none := fun h => if_neg h
  refine SCall.enter (n := 41) (res2 2 3) (hP ▸ Tryd.func16) rfl rfl (by simp) (res2_ok rfl) ?_
  refine SX.seq_k fun K1 hK1 => ?_
  refine SX.region ?_
  simp (maxSteps := 1000000) only [upd_app, Φa, Φb, Φc, ev, Φd, Φe, Φf, Φg, Φh, Φi, Φj, Φk, reduceIte, reduceCtorEq, if_true, if_false, Φl, Φm, Φn, Φo, true_and, and_true, false_and, and_false, true_implies, forall_const, false_implies, ne_eq, not_true_eq_false, not_false_eq_true, decide_true, decide_false, Φp, and_self, true_or, or_true, dite_true, dite_false, Φq, Φr, decide_eq_true_eq, decide_eq_false_iff_not, Φs, Φt, Φu, Φv, beq_self_eq_true, Φw, Φx, Φy, Φz, ΦA, eq_self, VCplan, less_refl_t, less_drop_t, VCops, VQops, guardVC, putVC, VC, VQ, ΦB, ΦC, ΦD, ΦE, ΦF, ΦG, ΦH, List.getElem?_cons_zero, List.getElem?_cons_succ, List.getElem?_nil, List.getElem?_toArray, List.map_cons, List.map_nil, ΦI, ΦJ, ΦK, ΦL, ΦM, ΦN, ΦO, ΦP, ΦQ, ΦR, ΦS, ΦT, ΦU, ΦV, ΦW, ΦX, ΦY, Nat.reduceLT, ΦZ, Nat.reduceAdd, Nat.reduceMul, Nat.reduceSub, Nat.add_zero, Nat.zero_add, Nat.mul_one, exists_eq_left, exists_eq_left', exists_const, existsSome, Nat.zero_le, Nat.le_refl, T.callable_20, T.callable_14, hP]
  refine hK1 _ _ ?_
  try clear hK1 K1
  refine SX.seq_k fun K2 hK2 => ?_
  refine SX.seq_k fun K3 hK3 => ?_
  refine SX.region ?_
  simp (maxSteps := 1000000) only [upd_app, Φa, Φb, Φc, ev, Φd, Φe, Φf, Φg, Φh, Φi, Φj, Φk, reduceIte, reduceCtorEq, if_true, if_false, Φl, Φm, Φn, Φo, true_and, and_true, false_and, and_false, true_implies, forall_const, false_implies, ne_eq, not_true_eq_false, not_false_eq_true, decide_true, decide_false, Φp, and_self, true_or, or_true, dite_true, dite_false, Φq, Φr, decide_eq_true_eq, decide_eq_false_iff_not, Φs, Φt, Φu, Φv, beq_self_eq_true, Φw, Φx, Φy, Φz, ΦA, eq_self, VCplan, less_refl_t, less_drop_t, VCops, VQops, guardVC, putVC, VC, VQ, ΦB, ΦC, ΦD, ΦE, ΦF, ΦG, ΦH, List.getElem?_cons_zero, List.getElem?_cons_succ, List.getElem?_nil, List.getElem?_toArray, List.map_cons, List.map_nil, ΦI, ΦJ, ΦK, ΦL, ΦM, ΦN, ΦO, ΦP, ΦQ, ΦR, ΦS, ΦT, ΦU, ΦV, ΦW, ΦX, ΦY, Nat.reduceLT, ΦZ, Nat.reduceAdd, Nat.reduceMul, Nat.reduceSub, Nat.add_zero, Nat.zero_add, Nat.mul_one, exists_eq_left, exists_eq_left', exists_const, existsSome, Nat.zero_le, Nat.le_refl, qcall_f, call_f, len_slice, len_str, cap_slice, min_int, max_int, T.szA_9, T.zr_9, Tryd.underlying9, bin_neq, bin_neqb, bin_neqs, bin_neqa, T.szA_3, T.zr_3, Tryd.underlying3, T.callable_20, T.callable_14, hP]
  refine hK3 _ _ ?_
  try clear hK3 K3
  refine SX.cond_k fun X4 Y4 hX4 hY4 => ?_
  simp (maxSteps := 1000000) only [upd_app, Φa, Φb, Φc, ev, Φd, Φe, Φf, Φg, Φh, Φi, Φj, Φk, reduceIte, reduceCtorEq, if_true, if_false, Φl, Φm, Φn, Φo, true_and, and_true, false_and, and_false, true_implies, forall_const, false_implies, ne_eq, not_true_eq_false, not_false_eq_true, decide_true, decide_false, Φp, and_self, true_or, or_true, dite_true, dite_false, Φq, Φr, decide_eq_true_eq, decide_eq_false_iff_not, Φs, Φt, Φu, Φv, beq_self_eq_true, Φw, Φx, Φy, Φz, ΦA, eq_self, hP, condVC]
  refine ⟨fun hc11 => hX4 ?_, fun hc11 => hY4 ?_⟩
  · clear hX4 hY4 X4 Y4
    refine SX.seq_k fun K5 hK5 => ?_
    refine SX.region ?_
    simp (maxSteps := 1000000) only [upd_app, Φa, Φb, Φc, ev, Φd, Φe, Φf, Φg, Φh, Φi, Φj, Φk, reduceIte, reduceCtorEq, if_true, if_false, Φl, Φm, Φn, Φo, true_and, and_true, false_and, and_false, true_implies, forall_const, false_implies, ne_eq, not_true_eq_false, not_false_eq_true, decide_true, decide_false, Φp, and_self, true_or, or_true, dite_true, dite_false, Φq, Φr, decide_eq_true_eq, decide_eq_false_iff_not, Φs, Φt, Φu, Φv, beq_self_eq_true, Φw, Φx, Φy, Φz, ΦA, eq_self, VCplan, less_refl_t, less_drop_t, VCops, VQops, guardVC, putVC, VC, VQ, ΦB, ΦC, ΦD, ΦE, ΦF, ΦG, ΦH, List.getElem?_cons_zero, List.getElem?_cons_succ, List.getElem?_nil, List.getElem?_toArray, List.map_cons, List.map_nil, ΦI, ΦJ, ΦK, ΦL, ΦM, ΦN, ΦO, ΦP, ΦQ, ΦR, ΦS, ΦT, ΦU, ΦV, ΦW, ΦX, ΦY, Nat.reduceLT, ΦZ, Nat.reduceAdd, Nat.reduceMul, Nat.reduceSub, Nat.add_zero, Nat.zero_add, Nat.mul_one, exists_eq_left, exists_eq_left', exists_const, existsSome, Nat.zero_le, Nat.le_refl, T.callable_20, T.callable_14, hP]
    refine hK5 _ _ ?_
    try clear hK5 K5
    refine SX.ret ?_
    simp only [Φd, Φe, Φf, Φg, Φh, Φi, Φj, if_true, if_false, reduceIte, retQ_ret]
    try simp only [res0, res1, res2, res3, upd_app, Φa, Φb, Φc, ev, Φd, Φe, Φf, Φg, Φh, Φi, Φj, Φk, reduceIte, reduceCtorEq, if_true, if_false, Φl, Φm, Φn, Φo, true_and, and_true, false_and, and_false, true_implies, forall_const, false_implies, ne_eq, not_true_eq_false, not_false_eq_true, decide_true, decide_false, Φp, and_self, true_or, or_true, dite_true, dite_false, Φq, Φr, decide_eq_true_eq, decide_eq_false_iff_not, Φs, Φt, Φu, Φv, beq_self_eq_true, Φw, Φx, Φy, Φz, ΦA, eq_self, hP]
    exact ⟨_, _, Less.none _, rfl, _, none, by rw [hno (by omega)]; exact RowI.nil _ _, by rw [hno (by omega)]; rfl, rfl⟩
  · clear hX4 hY4 X4 Y4
    have hlen : l.length = 2080 := by omega
    refine SX.skip ?_
    try simp only [Φd, Φe, Φf, Φg, Φh, Φi, Φj, if_true, if_false, reduceIte]
    refine hK2 _ _ ?_
    try clear hK2 K2
    refine SX.seq_k fun K6 hK6 => ?_
    refine SX.region ?_
    simp (maxSteps := 1000000) only [upd_app, Φa, Φb, Φc, ev, Φd, Φe, Φf, Φg, Φh, Φi, Φj, Φk, reduceIte, reduceCtorEq, if_true, if_false, Φl, Φm, Φn, Φo, true_and, and_true, false_and, and_false, true_implies, forall_const, false_implies, ne_eq, not_true_eq_false, not_false_eq_true, decide_true, decide_false, Φp, and_self, true_or, or_true, dite_true, dite_false, Φq, Φr, decide_eq_true_eq, decide_eq_false_iff_not, Φs, Φt, Φu, Φv, beq_self_eq_true, Φw, Φx, Φy, Φz, ΦA, eq_self, VCplan, less_refl_t, less_drop_t, VCops, VQops, guardVC, putVC, VC, VQ, ΦB, ΦC, ΦD, ΦE, ΦF, ΦG, ΦH, List.getElem?_cons_zero, List.getElem?_cons_succ, List.getElem?_nil, List.getElem?_toArray, List.map_cons, List.map_nil, ΦI, ΦJ, ΦK, ΦL, ΦM, ΦN, ΦO, ΦP, ΦQ, ΦR, ΦS, ΦT, ΦU, ΦV, ΦW, ΦX, ΦY, Nat.reduceLT, ΦZ, Nat.reduceAdd, Nat.reduceMul, Nat.reduceSub, Nat.add_zero, Nat.zero_add, Nat.mul_one, exists_eq_left, exists_eq_left', exists_const, existsSome, Nat.zero_le, Nat.le_refl, mk_int, Int.reduceToNat, Int.toNat_natCast, T.elS_25, T.szA_25, T.zr_25, Tryd.underlying25, T.szA_5, T.zr_5, Tryd.underlying5, T.callable_20, T.callable_14, hP]
    refine ⟨by decide, fun b => ?_⟩
    rw [zerosV_ints]
    refine hK6 _ _ ?_
    try clear hK6 K6
    refine SX.seq_k fun K7 hK7 => ?_
    refine SX.seq_k fun K8 hK8 => ?_
    refine SX.region ?_
    simp (maxSteps := 1000000) only [upd_app, Φa, Φb, Φc, ev, Φd, Φe, Φf, Φg, Φh, Φi, Φj, Φk, reduceIte, reduceCtorEq, if_true, if_false, Φl, Φm, Φn, Φo, true_and, and_true, false_and, and_false, true_implies, forall_const, false_implies, ne_eq, not_true_eq_false, not_false_eq_true, decide_true, decide_false, Φp, and_self, true_or, or_true, dite_true, dite_false, Φq, Φr, decide_eq_true_eq, decide_eq_false_iff_not, Φs, Φt, Φu, Φv, beq_self_eq_true, Φw, Φx, Φy, Φz, ΦA, eq_self, VCplan, less_refl_t, less_drop_t, VCops, VQops, guardVC, putVC, VC, VQ, ΦB, ΦC, ΦD, ΦE, ΦF, ΦG, ΦH, List.getElem?_cons_zero, List.getElem?_cons_succ, List.getElem?_nil, List.getElem?_toArray, List.map_cons, List.map_nil, ΦI, ΦJ, ΦK, ΦL, ΦM, ΦN, ΦO, ΦP, ΦQ, ΦR, ΦS, ΦT, ΦU, ΦV, ΦW, ΦX, ΦY, Nat.reduceLT, ΦZ, Nat.reduceAdd, Nat.reduceMul, Nat.reduceSub, Nat.add_zero, Nat.zero_add, Nat.mul_one, exists_eq_left, exists_eq_left', exists_const, existsSome, Nat.zero_le, Nat.le_refl, T.callable_20, T.callable_14, hP]
    refine hK8 _ _ ?_
    try clear hK8 K8
    refine SX.block ?_
    refine SX.live [0, 4, 5] (fun T1 hT1 => ?_)
    simp only [forall_mem_cons', forall_mem_nil', upd_app, Φa, Φb, Φc, ev, Φd, Φe, Φf, Φg, Φh, Φi, Φj, Φk, reduceIte, reduceCtorEq, if_true, if_false, Φl, Φm, Φn, Φo, true_and, and_true, false_and, and_false, true_implies, forall_const, false_implies, ne_eq, not_true_eq_false, not_false_eq_true, decide_true, decide_false, Φp, and_self, true_or, or_true, dite_true, dite_false, Φq, Φr, decide_eq_true_eq, decide_eq_false_iff_not, Φs, Φt, Φu, Φv, beq_self_eq_true, Φw, Φx, Φy, Φz, ΦA, eq_self, hP] at hT1
    obtain ⟨h1_0, h1_4, h1_5⟩ := hT1
    refine SX.loop_k (fun (ss : (Nat)) T L' => (fun (j : Nat) => T 5 = .int .i64 (j : Int) ∧ T 0 = T1 0 ∧ T 4 = T1 4 ∧ L' = some (b, .cells (ints .u8 (turnTo l (65 * j))).toArray 5 (0, 0)) :: L ∧ (j ≤ 32)) (ss)) (fun (ss : (Nat)) => (fun (j : Nat) => 32 - j) (ss)) 0 ?_ ?_
    · try dsimp only
      refine ⟨?_, ?_, ?_, ?_, ?_⟩
      · first | exact h1_5 | (rw [h1_5]; rfl) | (rw [h1_5]; simp; done)
      · rfl
      · rfl
      · rfl
      · exact Nat.zero_le _
    · intro j T2 L2 hI K9 hK9
      try dsimp only at hI hK9
      simp only [h1_0, h1_4] at hI hK9
      obtain ⟨h2_5, h2_0, h2_4, hL2, hj⟩ := hI
      replace hL2 := hL2.symm
      subst hL2
      clear h1_0 h1_4 h1_5 T1
      refine SX.seq_k fun K10 hK10 => ?_
      refine SX.seq_k fun K11 hK11 => ?_
      refine SX.region ?_
      simp (maxSteps := 1000000) only [upd_app, Φa, Φb, Φc, ev, Φd, Φe, Φf, Φg, Φh, Φi, Φj, Φk, reduceIte, reduceCtorEq, if_true, if_false, Φl, Φm, Φn, Φo, true_and, and_true, false_and, and_false, true_implies, forall_const, false_implies, ne_eq, not_true_eq_false, not_false_eq_true, decide_true, decide_false, Φp, and_self, true_or, or_true, dite_true, dite_false, Φq, Φr, decide_eq_true_eq, decide_eq_false_iff_not, Φs, Φt, Φu, Φv, beq_self_eq_true, Φw, Φx, Φy, Φz, ΦA, eq_self, VCplan, less_refl_t, less_drop_t, VCops, VQops, guardVC, putVC, VC, VQ, ΦB, ΦC, ΦD, ΦE, ΦF, ΦG, ΦH, List.getElem?_cons_zero, List.getElem?_cons_succ, List.getElem?_nil, List.getElem?_toArray, List.map_cons, List.map_nil, ΦI, ΦJ, ΦK, ΦL, ΦM, ΦN, ΦO, ΦP, ΦQ, ΦR, ΦS, ΦT, ΦU, ΦV, ΦW, ΦX, ΦY, Nat.reduceLT, ΦZ, Nat.reduceAdd, Nat.reduceMul, Nat.reduceSub, Nat.add_zero, Nat.zero_add, Nat.mul_one, exists_eq_left, exists_eq_left', exists_const, existsSome, Nat.zero_le, Nat.le_refl, bin_lss, T.callable_20, T.callable_14, hP, h2_5, h2_0, h2_4]
      refine hK11 _ _ ?_
      try clear hK11 K11
      refine SX.cond_k fun X12 Y12 hX12 hY12 => ?_
      simp (maxSteps := 1000000) only [upd_app, Φa, Φb, Φc, ev, Φd, Φe, Φf, Φg, Φh, Φi, Φj, Φk, reduceIte, reduceCtorEq, if_true, if_false, Φl, Φm, Φn, Φo, true_and, and_true, false_and, and_false, true_implies, forall_const, false_implies, ne_eq, not_true_eq_false, not_false_eq_true, decide_true, decide_false, Φp, and_self, true_or, or_true, dite_true, dite_false, Φq, Φr, decide_eq_true_eq, decide_eq_false_iff_not, Φs, Φt, Φu, Φv, beq_self_eq_true, Φw, Φx, Φy, Φz, ΦA, eq_self, hP, h2_5, h2_0, h2_4, condVC]
      refine ⟨fun hc14 => hX12 ?_, fun hc14 => hY12 ?_⟩
      · clear hX12 hY12 X12 Y12
        refine SX.skip ?_
        try simp only [Φd, Φe, Φf, Φg, Φh, Φi, Φj, if_true, if_false, reduceIte]
        refine hK10 _ _ ?_
        try clear hK10 K10
        refine SX.seq_k fun K13 hK13 => ?_
        refine SX.block ?_
        refine SX.seq_k fun K14 hK14 => ?_
        refine SX.region ?_
        simp (maxSteps := 1000000) only [upd_app, Φa, Φb, Φc, ev, Φd, Φe, Φf, Φg, Φh, Φi, Φj, Φk, reduceIte, reduceCtorEq, if_true, if_false, Φl, Φm, Φn, Φo, true_and, and_true, false_and, and_false, true_implies, forall_const, false_implies, ne_eq, not_true_eq_false, not_false_eq_true, decide_true, decide_false, Φp, and_self, true_or, or_true, dite_true, dite_false, Φq, Φr, decide_eq_true_eq, decide_eq_false_iff_not, Φs, Φt, Φu, Φv, beq_self_eq_true, Φw, Φx, Φy, Φz, ΦA, eq_self, VCplan, less_refl_t, less_drop_t, VCops, VQops, guardVC, putVC, VC, VQ, ΦB, ΦC, ΦD, ΦE, ΦF, ΦG, ΦH, List.getElem?_cons_zero, List.getElem?_cons_succ, List.getElem?_nil, List.getElem?_toArray, List.map_cons, List.map_nil, ΦI, ΦJ, ΦK, ΦL, ΦM, ΦN, ΦO, ΦP, ΦQ, ΦR, ΦS, ΦT, ΦU, ΦV, ΦW, ΦX, ΦY, Nat.reduceLT, ΦZ, Nat.reduceAdd, Nat.reduceMul, Nat.reduceSub, Nat.add_zero, Nat.zero_add, Nat.mul_one, exists_eq_left, exists_eq_left', exists_const, existsSome, Nat.zero_le, Nat.le_refl, T.callable_20, T.callable_14, hP, h2_5, h2_0, h2_4]
        refine hK14 _ _ ?_
        try clear hK14 K14
        refine SX.block ?_
        refine SX.live [0, 4, 5, 6] (fun T3 hT3 => ?_)
        simp only [forall_mem_cons', forall_mem_nil', upd_app, Φa, Φb, Φc, ev, Φd, Φe, Φf, Φg, Φh, Φi, Φj, Φk, reduceIte, reduceCtorEq, if_true, if_false, Φl, Φm, Φn, Φo, true_and, and_true, false_and, and_false, true_implies, forall_const, false_implies, ne_eq, not_true_eq_false, not_false_eq_true, decide_true, decide_false, Φp, and_self, true_or, or_true, dite_true, dite_false, Φq, Φr, decide_eq_true_eq, decide_eq_false_iff_not, Φs, Φt, Φu, Φv, beq_self_eq_true, Φw, Φx, Φy, Φz, ΦA, eq_self, hP, h2_5, h2_0, h2_4] at hT3
        obtain ⟨h3_0, h3_4, h3_5, h3_6⟩ := hT3
        clear h2_5 h2_0 h2_4 T2
        refine SX.loop_k (fun (ss : (Nat)) T L' => (fun (i : Nat) => T 6 = .int .i64 (i : Int) ∧ T 0 = T3 0 ∧ T 4 = T3 4 ∧ T 5 = T3 5 ∧ L' = some (b, .cells (ints .u8 (turnTo l (65 * j + i))).toArray 5 (0, 0)) :: L ∧ (i ≤ 64)) (ss)) (fun (ss : (Nat)) => (fun (i : Nat) => 64 - i) (ss)) 0 ?_ ?_
        · try dsimp only
          refine ⟨?_, ?_, ?_, ?_, ?_, ?_⟩
          · first | exact h3_6 | (rw [h3_6]; rfl) | (rw [h3_6]; simp; done)
          · rfl
          · rfl
          · rfl
          · rfl
          · exact Nat.zero_le _
        · intro i T4 L4 hI K15 hK15
          try dsimp only at hI hK15
          simp only [h3_0, h3_4, h3_5] at hI hK15
          obtain ⟨h4_6, h4_0, h4_4, h4_5, hL4, hi⟩ := hI
          replace hL4 := hL4.symm
          subst hL4
          clear h3_0 h3_4 h3_5 h3_6 T3
          refine SX.seq_k fun K16 hK16 => ?_
          refine SX.seq_k fun K17 hK17 => ?_
          refine SX.region ?_
          simp (maxSteps := 1000000) only [upd_app, Φa, Φb, Φc, ev, Φd, Φe, Φf, Φg, Φh, Φi, Φj, Φk, reduceIte, reduceCtorEq, if_true, if_false, Φl, Φm, Φn, Φo, true_and, and_true, false_and, and_false, true_implies, forall_const, false_implies, ne_eq, not_true_eq_false, not_false_eq_true, decide_true, decide_false, Φp, and_self, true_or, or_true, dite_true, dite_false, Φq, Φr, decide_eq_true_eq, decide_eq_false_iff_not, Φs, Φt, Φu, Φv, beq_self_eq_true, Φw, Φx, Φy, Φz, ΦA, eq_self, VCplan, less_refl_t, less_drop_t, VCops, VQops, guardVC, putVC, VC, VQ, ΦB, ΦC, ΦD, ΦE, ΦF, ΦG, ΦH, List.getElem?_cons_zero, List.getElem?_cons_succ, List.getElem?_nil, List.getElem?_toArray, List.map_cons, List.map_nil, ΦI, ΦJ, ΦK, ΦL, ΦM, ΦN, ΦO, ΦP, ΦQ, ΦR, ΦS, ΦT, ΦU, ΦV, ΦW, ΦX, ΦY, Nat.reduceLT, ΦZ, Nat.reduceAdd, Nat.reduceMul, Nat.reduceSub, Nat.add_zero, Nat.zero_add, Nat.mul_one, exists_eq_left, exists_eq_left', exists_const, existsSome, Nat.zero_le, Nat.le_refl, bin_lss, T.callable_20, T.callable_14, hP, h4_6, h4_0, h4_4, h4_5]
          refine hK17 _ _ ?_
          try clear hK17 K17
          refine SX.cond_k fun X18 Y18 hX18 hY18 => ?_
          simp (maxSteps := 1000000) only [upd_app, Φa, Φb, Φc, ev, Φd, Φe, Φf, Φg, Φh, Φi, Φj, Φk, reduceIte, reduceCtorEq, if_true, if_false, Φl, Φm, Φn, Φo, true_and, and_true, false_and, and_false, true_implies, forall_const, false_implies, ne_eq, not_true_eq_false, not_false_eq_true, decide_true, decide_false, Φp, and_self, true_or, or_true, dite_true, dite_false, Φq, Φr, decide_eq_true_eq, decide_eq_false_iff_not, Φs, Φt, Φu, Φv, beq_self_eq_true, Φw, Φx, Φy, Φz, ΦA, eq_self, hP, h4_6, h4_0, h4_4, h4_5, condVC]
          refine ⟨fun hc18 => hX18 ?_, fun hc18 => hY18 ?_⟩
          · clear hX18 hY18 X18 Y18
            refine SX.skip ?_
            try simp only [Φd, Φe, Φf, Φg, Φh, Φi, Φj, if_true, if_false, reduceIte]
            refine hK16 _ _ ?_
            try clear hK16 K16
            refine SX.seq_k fun K19 hK19 => ?_
            refine SX.block ?_
            refine SX.seq_k fun K20 hK20 => ?_
            obtain ⟨cb, hb1, hb2⟩ := index_nums8 (s := s) (i := 65 * j + i) (by omega)
            rw [← hl] at hb2
            have hgd : l.getD (65 * j + i) 0 = (cb.toNat : Int) := by simp [List.getD, hb2]
            have q1 : IntKind.i64.wrap (65 * (j : Int)) = ((65 * j : Nat) : Int) := by rw [w64 (by omega)]; omega
            have q2 : IntKind.i64.wrap (((65 * j : Nat) : Int) + (i : Int)) = ((65 * j + i : Nat) : Int) := by rw [w64 (by omega)]; rfl
            refine SX.region ?_
            simp (maxSteps := 1000000) only [upd_app, Φa, Φb, Φc, ev, Φd, Φe, Φf, Φg, Φh, Φi, Φj, Φk, reduceIte, reduceCtorEq, if_true, if_false, Φl, Φm, Φn, Φo, true_and, and_true, false_and, and_false, true_implies, forall_const, false_implies, ne_eq, not_true_eq_false, not_false_eq_true, decide_true, decide_false, Φp, and_self, true_or, or_true, dite_true, dite_false, Φq, Φr, decide_eq_true_eq, decide_eq_false_iff_not, Φs, Φt, Φu, Φv, beq_self_eq_true, Φw, Φx, Φy, Φz, ΦA, eq_self, VCplan, less_refl_t, less_drop_t, VCops, VQops, guardVC, putVC, VC, VQ, ΦB, ΦC, ΦD, ΦE, ΦF, ΦG, ΦH, List.getElem?_cons_zero, List.getElem?_cons_succ, List.getElem?_nil, List.getElem?_toArray, List.map_cons, List.map_nil, ΦI, ΦJ, ΦK, ΦL, ΦM, ΦN, ΦO, ΦP, ΦQ, ΦR, ΦS, ΦT, ΦU, ΦV, ΦW, ΦX, ΦY, Nat.reduceLT, ΦZ, Nat.reduceAdd, Nat.reduceMul, Nat.reduceSub, Nat.add_zero, Nat.zero_add, Nat.mul_one, exists_eq_left, exists_eq_left', exists_const, existsSome, Nat.zero_le, Nat.le_refl, bin_mul, bin_add, bin_adds, index_agg, index_str, Int.toNat_natCast, Int.toNat_zero, Int.toNat_one, Int.reduceToNat, T.szA_9, T.zr_9, Tryd.underlying9, bin_eql, bin_eqlb, bin_eqls, bin_eqla, T.szA_5, T.zr_5, Tryd.underlying5, T.callable_20, T.callable_14, hP, h4_6, h4_0, h4_4, h4_5, q1, q2]
            refine ⟨by omega, cb, hb1, ?_⟩
            refine hK20 _ _ ?_
            try clear hK20 K20
            refine SX.live [0, 4, 5, 6, 27] (fun T5 hT5 => ?_)
            simp only [forall_mem_cons', forall_mem_nil', upd_app, Φa, Φb, Φc, ev, Φd, Φe, Φf, Φg, Φh, Φi, Φj, Φk, reduceIte, reduceCtorEq, if_true, if_false, Φl, Φm, Φn, Φo, true_and, and_true, false_and, and_false, true_implies, forall_const, false_implies, ne_eq, not_true_eq_false, not_false_eq_true, decide_true, decide_false, Φp, and_self, true_or, or_true, dite_true, dite_false, Φq, Φr, decide_eq_true_eq, decide_eq_false_iff_not, Φs, Φt, Φu, Φv, beq_self_eq_true, Φw, Φx, Φy, Φz, ΦA, eq_self, hP, h4_6, h4_0, h4_4, h4_5] at hT5
            obtain ⟨h5_0, h5_4, h5_5, h5_6, h5_27⟩ := hT5
            clear h4_6 h4_0 h4_4 h4_5 T4
            refine SX.cond_k fun X21 Y21 hX21 hY21 => ?_
            simp (maxSteps := 1000000) only [upd_app, Φa, Φb, Φc, ev, Φd, Φe, Φf, Φg, Φh, Φi, Φj, Φk, reduceIte, reduceCtorEq, if_true, if_false, Φl, Φm, Φn, Φo, true_and, and_true, false_and, and_false, true_implies, forall_const, false_implies, ne_eq, not_true_eq_false, not_false_eq_true, decide_true, decide_false, Φp, and_self, true_or, or_true, dite_true, dite_false, Φq, Φr, decide_eq_true_eq, decide_eq_false_iff_not, Φs, Φt, Φu, Φv, beq_self_eq_true, Φw, Φx, Φy, Φz, ΦA, eq_self, hP, h5_0, h5_4, h5_5, h5_6, h5_27, condVC]
            refine ⟨fun hc27 => hX21 ?_, fun hc27 => hY21 ?_⟩
            · clear hX21 hY21 X21 Y21
              refine SX.region ?_
              simp (maxSteps := 1000000) only [upd_app, Φa, Φb, Φc, ev, Φd, Φe, Φf, Φg, Φh, Φi, Φj, Φk, reduceIte, reduceCtorEq, if_true, if_false, Φl, Φm, Φn, Φo, true_and, and_true, false_and, and_false, true_implies, forall_const, false_implies, ne_eq, not_true_eq_false, not_false_eq_true, decide_true, decide_false, Φp, and_self, true_or, or_true, dite_true, dite_false, Φq, Φr, decide_eq_true_eq, decide_eq_false_iff_not, Φs, Φt, Φu, Φv, beq_self_eq_true, Φw, Φx, Φy, Φz, ΦA, eq_self, VCplan, less_refl_t, less_drop_t, VCops, VQops, guardVC, putVC, VC, VQ, ΦB, ΦC, ΦD, ΦE, ΦF, ΦG, ΦH, List.getElem?_cons_zero, List.getElem?_cons_succ, List.getElem?_nil, List.getElem?_toArray, List.map_cons, List.map_nil, ΦI, ΦJ, ΦK, ΦL, ΦM, ΦN, ΦO, ΦP, ΦQ, ΦR, ΦS, ΦT, ΦU, ΦV, ΦW, ΦX, ΦY, Nat.reduceLT, ΦZ, Nat.reduceAdd, Nat.reduceMul, Nat.reduceSub, Nat.add_zero, Nat.zero_add, Nat.mul_one, exists_eq_left, exists_eq_left', exists_const, existsSome, Nat.zero_le, Nat.le_refl, qcall_f, call_f, len_slice, len_str, cap_slice, min_int, max_int, T.elS_25, T.szA_25, T.zr_25, Tryd.underlying25, T.szA_3, T.zr_3, Tryd.underlying3, T.callable_20, T.callable_14, hP, h5_0, h5_4, h5_5, h5_6, h5_27]
              refine SCall.mono (turn_specN hP (by omega) (by omega) (turnTo_len l _) (by omega)) ?_
              rintro v_ L_ ⟨hv_, hL_⟩
              rw [hv_, hL_]
              clear hv_ hL_ v_ L_
              try simp (maxSteps := 1000000) only [upd_app, Φa, Φb, Φc, ev, Φd, Φe, Φf, Φg, Φh, Φi, Φj, Φk, reduceIte, reduceCtorEq, if_true, if_false, Φl, Φm, Φn, Φo, true_and, and_true, false_and, and_false, true_implies, forall_const, false_implies, ne_eq, not_true_eq_false, not_false_eq_true, decide_true, decide_false, Φp, and_self, true_or, or_true, dite_true, dite_false, Φq, Φr, decide_eq_true_eq, decide_eq_false_iff_not, Φs, Φt, Φu, Φv, beq_self_eq_true, Φw, Φx, Φy, Φz, ΦA, eq_self, VCplan, less_refl_t, less_drop_t, VCops, VQops, guardVC, putVC, VC, VQ, ΦB, ΦC, ΦD, ΦE, ΦF, ΦG, ΦH, List.getElem?_cons_zero, List.getElem?_cons_succ, List.getElem?_nil, List.getElem?_toArray, List.map_cons, List.map_nil, ΦI, ΦJ, ΦK, ΦL, ΦM, ΦN, ΦO, ΦP, ΦQ, ΦR, ΦS, ΦT, ΦU, ΦV, ΦW, ΦX, ΦY, Nat.reduceLT, ΦZ, Nat.reduceAdd, Nat.reduceMul, Nat.reduceSub, Nat.add_zero, Nat.zero_add, Nat.mul_one, exists_eq_left, exists_eq_left', exists_const, existsSome, Nat.zero_le, Nat.le_refl, qcall_f, call_f, len_slice, len_str, cap_slice, min_int, max_int, T.elS_25, T.szA_25, T.zr_25, Tryd.underlying25, T.szA_3, T.zr_3, Tryd.underlying3, T.callable_20, T.callable_14, hP, h5_0, h5_4, h5_5, h5_6, h5_27]
              refine hK19 _ _ ?_
              try clear hK19 K19
              skip
              refine SX.region ?_
              simp (maxSteps := 1000000) only [upd_app, Φa, Φb, Φc, ev, Φd, Φe, Φf, Φg, Φh, Φi, Φj, Φk, reduceIte, reduceCtorEq, if_true, if_false, Φl, Φm, Φn, Φo, true_and, and_true, false_and, and_false, true_implies, forall_const, false_implies, ne_eq, not_true_eq_false, not_false_eq_true, decide_true, decide_false, Φp, and_self, true_or, or_true, dite_true, dite_false, Φq, Φr, decide_eq_true_eq, decide_eq_false_iff_not, Φs, Φt, Φu, Φv, beq_self_eq_true, Φw, Φx, Φy, Φz, ΦA, eq_self, VCplan, less_refl_t, less_drop_t, VCops, VQops, guardVC, putVC, VC, VQ, ΦB, ΦC, ΦD, ΦE, ΦF, ΦG, ΦH, List.getElem?_cons_zero, List.getElem?_cons_succ, List.getElem?_nil, List.getElem?_toArray, List.map_cons, List.map_nil, ΦI, ΦJ, ΦK, ΦL, ΦM, ΦN, ΦO, ΦP, ΦQ, ΦR, ΦS, ΦT, ΦU, ΦV, ΦW, ΦX, ΦY, Nat.reduceLT, ΦZ, Nat.reduceAdd, Nat.reduceMul, Nat.reduceSub, Nat.add_zero, Nat.zero_add, Nat.mul_one, exists_eq_left, exists_eq_left', exists_const, existsSome, Nat.zero_le, Nat.le_refl, bin_add, bin_adds, T.callable_20, T.callable_14, hP, h5_0, h5_4, h5_5, h5_6, h5_27]
              refine hK15 (i + 1) _ (_) _ (by first | exact Less.refl _ | exact Less.drop _ _ | exact Less.drops (Less.drop _ _) | exact Less.drops (Less.drops (Less.drop _ _)) | exact Less.drops (Less.drops (Less.drops (Less.drop _ _))) | exact Less.drops (Less.drops (Less.drops (Less.drops (Less.drop _ _))))) ?_ ?_
              · try dsimp only
                refine ⟨?_, ?_, ?_, ?_, ?_, ?_⟩
                · simp (maxSteps := 1000000) only [upd_app, Φa, Φb, Φc, ev, Φd, Φe, Φf, Φg, Φh, Φi, Φj, Φk, reduceIte, reduceCtorEq, if_true, if_false, Φl, Φm, Φn, Φo, true_and, and_true, false_and, and_false, true_implies, forall_const, false_implies, ne_eq, not_true_eq_false, not_false_eq_true, decide_true, decide_false, Φp, and_self, true_or, or_true, dite_true, dite_false, Φq, Φr, decide_eq_true_eq, decide_eq_false_iff_not, Φs, Φt, Φu, Φv, beq_self_eq_true, Φw, Φx, Φy, Φz, ΦA, eq_self, hP, h5_0, h5_4, h5_5, h5_6, h5_27]
                  rw [inc64 (by omega)]
                · simp (maxSteps := 1000000) only [upd_app, Φa, Φb, Φc, ev, Φd, Φe, Φf, Φg, Φh, Φi, Φj, Φk, reduceIte, reduceCtorEq, if_true, if_false, Φl, Φm, Φn, Φo, true_and, and_true, false_and, and_false, true_implies, forall_const, false_implies, ne_eq, not_true_eq_false, not_false_eq_true, decide_true, decide_false, Φp, and_self, true_or, or_true, dite_true, dite_false, Φq, Φr, decide_eq_true_eq, decide_eq_false_iff_not, Φs, Φt, Φu, Φv, beq_self_eq_true, Φw, Φx, Φy, Φz, ΦA, eq_self, hP, h5_0, h5_4, h5_5, h5_6, h5_27]
                · simp (maxSteps := 1000000) only [upd_app, Φa, Φb, Φc, ev, Φd, Φe, Φf, Φg, Φh, Φi, Φj, Φk, reduceIte, reduceCtorEq, if_true, if_false, Φl, Φm, Φn, Φo, true_and, and_true, false_and, and_false, true_implies, forall_const, false_implies, ne_eq, not_true_eq_false, not_false_eq_true, decide_true, decide_false, Φp, and_self, true_or, or_true, dite_true, dite_false, Φq, Φr, decide_eq_true_eq, decide_eq_false_iff_not, Φs, Φt, Φu, Φv, beq_self_eq_true, Φw, Φx, Φy, Φz, ΦA, eq_self, hP, h5_0, h5_4, h5_5, h5_6, h5_27]
                · simp (maxSteps := 1000000) only [upd_app, Φa, Φb, Φc, ev, Φd, Φe, Φf, Φg, Φh, Φi, Φj, Φk, reduceIte, reduceCtorEq, if_true, if_false, Φl, Φm, Φn, Φo, true_and, and_true, false_and, and_false, true_implies, forall_const, false_implies, ne_eq, not_true_eq_false, not_false_eq_true, decide_true, decide_false, Φp, and_self, true_or, or_true, dite_true, dite_false, Φq, Φr, decide_eq_true_eq, decide_eq_false_iff_not, Φs, Φt, Φu, Φv, beq_self_eq_true, Φw, Φx, Φy, Φz, ΦA, eq_self, hP, h5_0, h5_4, h5_5, h5_6, h5_27]
                · rw [← Nat.add_assoc, turnTo_put (by omega) (by omega) (by omega)]
                · omega
              · (try dsimp only); omega
            · clear hX21 hY21 X21 Y21
              refine SX.skip ?_
              try simp only [Φd, Φe, Φf, Φg, Φh, Φi, Φj, if_true, if_false, reduceIte]
              refine hK19 _ _ ?_
              try clear hK19 K19
              skip
              refine SX.region ?_
              simp (maxSteps := 1000000) only [upd_app, Φa, Φb, Φc, ev, Φd, Φe, Φf, Φg, Φh, Φi, Φj, Φk, reduceIte, reduceCtorEq, if_true, if_false, Φl, Φm, Φn, Φo, true_and, and_true, false_and, and_false, true_implies, forall_const, false_implies, ne_eq, not_true_eq_false, not_false_eq_true, decide_true, decide_false, Φp, and_self, true_or, or_true, dite_true, dite_false, Φq, Φr, decide_eq_true_eq, decide_eq_false_iff_not, Φs, Φt, Φu, Φv, beq_self_eq_true, Φw, Φx, Φy, Φz, ΦA, eq_self, VCplan, less_refl_t, less_drop_t, VCops, VQops, guardVC, putVC, VC, VQ, ΦB, ΦC, ΦD, ΦE, ΦF, ΦG, ΦH, List.getElem?_cons_zero, List.getElem?_cons_succ, List.getElem?_nil, List.getElem?_toArray, List.map_cons, List.map_nil, ΦI, ΦJ, ΦK, ΦL, ΦM, ΦN, ΦO, ΦP, ΦQ, ΦR, ΦS, ΦT, ΦU, ΦV, ΦW, ΦX, ΦY, Nat.reduceLT, ΦZ, Nat.reduceAdd, Nat.reduceMul, Nat.reduceSub, Nat.add_zero, Nat.zero_add, Nat.mul_one, exists_eq_left, exists_eq_left', exists_const, existsSome, Nat.zero_le, Nat.le_refl, bin_add, bin_adds, T.callable_20, T.callable_14, hP, h5_0, h5_4, h5_5, h5_6, h5_27]
              refine hK15 (i + 1) _ (_) _ (by first | exact Less.refl _ | exact Less.drop _ _ | exact Less.drops (Less.drop _ _) | exact Less.drops (Less.drops (Less.drop _ _)) | exact Less.drops (Less.drops (Less.drops (Less.drop _ _))) | exact Less.drops (Less.drops (Less.drops (Less.drops (Less.drop _ _))))) ?_ ?_
              · try dsimp only
                refine ⟨?_, ?_, ?_, ?_, ?_, ?_⟩
                · simp (maxSteps := 1000000) only [upd_app, Φa, Φb, Φc, ev, Φd, Φe, Φf, Φg, Φh, Φi, Φj, Φk, reduceIte, reduceCtorEq, if_true, if_false, Φl, Φm, Φn, Φo, true_and, and_true, false_and, and_false, true_implies, forall_const, false_implies, ne_eq, not_true_eq_false, not_false_eq_true, decide_true, decide_false, Φp, and_self, true_or, or_true, dite_true, dite_false, Φq, Φr, decide_eq_true_eq, decide_eq_false_iff_not, Φs, Φt, Φu, Φv, beq_self_eq_true, Φw, Φx, Φy, Φz, ΦA, eq_self, hP, h5_0, h5_4, h5_5, h5_6, h5_27]
                  rw [inc64 (by omega)]
                · simp (maxSteps := 1000000) only [upd_app, Φa, Φb, Φc, ev, Φd, Φe, Φf, Φg, Φh, Φi, Φj, Φk, reduceIte, reduceCtorEq, if_true, if_false, Φl, Φm, Φn, Φo, true_and, and_true, false_and, and_false, true_implies, forall_const, false_implies, ne_eq, not_true_eq_false, not_false_eq_true, decide_true, decide_false, Φp, and_self, true_or, or_true, dite_true, dite_false, Φq, Φr, decide_eq_true_eq, decide_eq_false_iff_not, Φs, Φt, Φu, Φv, beq_self_eq_true, Φw, Φx, Φy, Φz, ΦA, eq_self, hP, h5_0, h5_4, h5_5, h5_6, h5_27]
                · simp (maxSteps := 1000000) only [upd_app, Φa, Φb, Φc, ev, Φd, Φe, Φf, Φg, Φh, Φi, Φj, Φk, reduceIte, reduceCtorEq, if_true, if_false, Φl, Φm, Φn, Φo, true_and, and_true, false_and, and_false, true_implies, forall_const, false_implies, ne_eq, not_true_eq_false, not_false_eq_true, decide_true, decide_false, Φp, and_self, true_or, or_true, dite_true, dite_false, Φq, Φr, decide_eq_true_eq, decide_eq_false_iff_not, Φs, Φt, Φu, Φv, beq_self_eq_true, Φw, Φx, Φy, Φz, ΦA, eq_self, hP, h5_0, h5_4, h5_5, h5_6, h5_27]
                · simp (maxSteps := 1000000) only [upd_app, Φa, Φb, Φc, ev, Φd, Φe, Φf, Φg, Φh, Φi, Φj, Φk, reduceIte, reduceCtorEq, if_true, if_false, Φl, Φm, Φn, Φo, true_and, and_true, false_and, and_false, true_implies, forall_const, false_implies, ne_eq, not_true_eq_false, not_false_eq_true, decide_true, decide_false, Φp, and_self, true_or, or_true, dite_true, dite_false, Φq, Φr, decide_eq_true_eq, decide_eq_false_iff_not, Φs, Φt, Φu, Φv, beq_self_eq_true, Φw, Φx, Φy, Φz, ΦA, eq_self, hP, h5_0, h5_4, h5_5, h5_6, h5_27]
                · rw [← Nat.add_assoc, turnTo_skip (by omega)]
                · omega
              · (try dsimp only); omega
          · clear hX18 hY18 X18 Y18
            refine SX.exit ?_
            try simp only [Φd, Φe, Φf, Φg, Φh, Φi, Φj, if_true, if_false, reduceIte]
            refine hK13 _ _ ?_
            try clear hK13 K13
            obtain rfl : i = 64 := by omega
            refine SX.region ?_
            simp (maxSteps := 1000000) only [upd_app, Φa, Φb, Φc, ev, Φd, Φe, Φf, Φg, Φh, Φi, Φj, Φk, reduceIte, reduceCtorEq, if_true, if_false, Φl, Φm, Φn, Φo, true_and, and_true, false_and, and_false, true_implies, forall_const, false_implies, ne_eq, not_true_eq_false, not_false_eq_true, decide_true, decide_false, Φp, and_self, true_or, or_true, dite_true, dite_false, Φq, Φr, decide_eq_true_eq, decide_eq_false_iff_not, Φs, Φt, Φu, Φv, beq_self_eq_true, Φw, Φx, Φy, Φz, ΦA, eq_self, VCplan, less_refl_t, less_drop_t, VCops, VQops, guardVC, putVC, VC, VQ, ΦB, ΦC, ΦD, ΦE, ΦF, ΦG, ΦH, List.getElem?_cons_zero, List.getElem?_cons_succ, List.getElem?_nil, List.getElem?_toArray, List.map_cons, List.map_nil, ΦI, ΦJ, ΦK, ΦL, ΦM, ΦN, ΦO, ΦP, ΦQ, ΦR, ΦS, ΦT, ΦU, ΦV, ΦW, ΦX, ΦY, Nat.reduceLT, ΦZ, Nat.reduceAdd, Nat.reduceMul, Nat.reduceSub, Nat.add_zero, Nat.zero_add, Nat.mul_one, exists_eq_left, exists_eq_left', exists_const, existsSome, Nat.zero_le, Nat.le_refl, bin_add, bin_adds, T.callable_20, T.callable_14, hP, h4_6, h4_0, h4_4, h4_5]
            refine hK9 (j + 1) _ (_) _ (by first | exact Less.refl _ | exact Less.drop _ _ | exact Less.drops (Less.drop _ _) | exact Less.drops (Less.drops (Less.drop _ _)) | exact Less.drops (Less.drops (Less.drops (Less.drop _ _))) | exact Less.drops (Less.drops (Less.drops (Less.drops (Less.drop _ _))))) ?_ ?_
            · try dsimp only
              refine ⟨?_, ?_, ?_, ?_, ?_⟩
              · simp (maxSteps := 1000000) only [upd_app, Φa, Φb, Φc, ev, Φd, Φe, Φf, Φg, Φh, Φi, Φj, Φk, reduceIte, reduceCtorEq, if_true, if_false, Φl, Φm, Φn, Φo, true_and, and_true, false_and, and_false, true_implies, forall_const, false_implies, ne_eq, not_true_eq_false, not_false_eq_true, decide_true, decide_false, Φp, and_self, true_or, or_true, dite_true, dite_false, Φq, Φr, decide_eq_true_eq, decide_eq_false_iff_not, Φs, Φt, Φu, Φv, beq_self_eq_true, Φw, Φx, Φy, Φz, ΦA, eq_self, hP, h4_6, h4_0, h4_4, h4_5]
                rw [inc64 (by omega)]
              · simp (maxSteps := 1000000) only [upd_app, Φa, Φb, Φc, ev, Φd, Φe, Φf, Φg, Φh, Φi, Φj, Φk, reduceIte, reduceCtorEq, if_true, if_false, Φl, Φm, Φn, Φo, true_and, and_true, false_and, and_false, true_implies, forall_const, false_implies, ne_eq, not_true_eq_false, not_false_eq_true, decide_true, decide_false, Φp, and_self, true_or, or_true, dite_true, dite_false, Φq, Φr, decide_eq_true_eq, decide_eq_false_iff_not, Φs, Φt, Φu, Φv, beq_self_eq_true, Φw, Φx, Φy, Φz, ΦA, eq_self, hP, h4_6, h4_0, h4_4, h4_5]
              · simp (maxSteps := 1000000) only [upd_app, Φa, Φb, Φc, ev, Φd, Φe, Φf, Φg, Φh, Φi, Φj, Φk, reduceIte, reduceCtorEq, if_true, if_false, Φl, Φm, Φn, Φo, true_and, and_true, false_and, and_false, true_implies, forall_const, false_implies, ne_eq, not_true_eq_false, not_false_eq_true, decide_true, decide_false, Φp, and_self, true_or, or_true, dite_true, dite_false, Φq, Φr, decide_eq_true_eq, decide_eq_false_iff_not, Φs, Φt, Φu, Φv, beq_self_eq_true, Φw, Φx, Φy, Φz, ΦA, eq_self, hP, h4_6, h4_0, h4_4, h4_5]
              · rw [show 65 * (j + 1) = 65 * j + 64 + 1 by omega, turnTo_skip (m := 65 * j + 64) (by omega)]
              · omega
            · (try dsimp only); omega
      · clear hX12 hY12 X12 Y12
        refine SX.exit ?_
        try simp only [Φd, Φe, Φf, Φg, Φh, Φi, Φj, if_true, if_false, reduceIte]
        refine hK7 _ _ ?_
        try clear hK7 K7
        refine SX.seq_k fun K22 hK22 => ?_
        obtain rfl : j = 32 := by omega
        refine SX.region ?_
        simp (maxSteps := 1000000) only [upd_app, Φa, Φb, Φc, ev, Φd, Φe, Φf, Φg, Φh, Φi, Φj, Φk, reduceIte, reduceCtorEq, if_true, if_false, Φl, Φm, Φn, Φo, true_and, and_true, false_and, and_false, true_implies, forall_const, false_implies, ne_eq, not_true_eq_false, not_false_eq_true, decide_true, decide_false, Φp, and_self, true_or, or_true, dite_true, dite_false, Φq, Φr, decide_eq_true_eq, decide_eq_false_iff_not, Φs, Φt, Φu, Φv, beq_self_eq_true, Φw, Φx, Φy, Φz, ΦA, eq_self, VCplan, less_refl_t, less_drop_t, VCops, VQops, guardVC, putVC, VC, VQ, ΦB, ΦC, ΦD, ΦE, ΦF, ΦG, ΦH, List.getElem?_cons_zero, List.getElem?_cons_succ, List.getElem?_nil, List.getElem?_toArray, List.map_cons, List.map_nil, ΦI, ΦJ, ΦK, ΦL, ΦM, ΦN, ΦO, ΦP, ΦQ, ΦR, ΦS, ΦT, ΦU, ΦV, ΦW, ΦX, ΦY, Nat.reduceLT, ΦZ, Nat.reduceAdd, Nat.reduceMul, Nat.reduceSub, Nat.add_zero, Nat.zero_add, Nat.mul_one, exists_eq_left, exists_eq_left', exists_const, existsSome, Nat.zero_le, Nat.le_refl, qcall_f, call_f, len_slice, len_str, cap_slice, min_int, max_int, T.elS_25, T.szA_25, T.zr_25, Tryd.underlying25, T.callable_14, ext_tup, T.callable_20, hP, h2_5, h2_0, h2_4]
        refine SCall.mono (refShow_spec hP (SlI.own 0 rfl (turnTo_len l _).symm (Nat.le_refl _)) (Good.toB (turnTo_good l _)) (by rw [turnTo_len]; omega)) ?_
        rintro v_ L_ ⟨hv_, hL_⟩
        rw [hv_, hL_]
        clear hv_ hL_ v_ L_
        try simp (maxSteps := 1000000) only [upd_app, Φa, Φb, Φc, ev, Φd, Φe, Φf, Φg, Φh, Φi, Φj, Φk, reduceIte, reduceCtorEq, if_true, if_false, Φl, Φm, Φn, Φo, true_and, and_true, false_and, and_false, true_implies, forall_const, false_implies, ne_eq, not_true_eq_false, not_false_eq_true, decide_true, decide_false, Φp, and_self, true_or, or_true, dite_true, dite_false, Φq, Φr, decide_eq_true_eq, decide_eq_false_iff_not, Φs, Φt, Φu, Φv, beq_self_eq_true, Φw, Φx, Φy, Φz, ΦA, eq_self, VCplan, less_refl_t, less_drop_t, VCops, VQops, guardVC, putVC, VC, VQ, ΦB, ΦC, ΦD, ΦE, ΦF, ΦG, ΦH, List.getElem?_cons_zero, List.getElem?_cons_succ, List.getElem?_nil, List.getElem?_toArray, List.map_cons, List.map_nil, ΦI, ΦJ, ΦK, ΦL, ΦM, ΦN, ΦO, ΦP, ΦQ, ΦR, ΦS, ΦT, ΦU, ΦV, ΦW, ΦX, ΦY, Nat.reduceLT, ΦZ, Nat.reduceAdd, Nat.reduceMul, Nat.reduceSub, Nat.add_zero, Nat.zero_add, Nat.mul_one, exists_eq_left, exists_eq_left', exists_const, existsSome, Nat.zero_le, Nat.le_refl, qcall_f, call_f, len_slice, len_str, cap_slice, min_int, max_int, T.elS_25, T.szA_25, T.zr_25, Tryd.underlying25, T.callable_14, ext_tup, T.callable_20, hP, h2_5, h2_0, h2_4]
        refine hK22 _ _ ?_
        try clear hK22 K22
        refine SX.live [0, 4, 7] (fun T6 hT6 => ?_)
        simp only [forall_mem_cons', forall_mem_nil', upd_app, Φa, Φb, Φc, ev, Φd, Φe, Φf, Φg, Φh, Φi, Φj, Φk, reduceIte, reduceCtorEq, if_true, if_false, Φl, Φm, Φn, Φo, true_and, and_true, false_and, and_false, true_implies, forall_const, false_implies, ne_eq, not_true_eq_false, not_false_eq_true, decide_true, decide_false, Φp, and_self, true_or, or_true, dite_true, dite_false, Φq, Φr, decide_eq_true_eq, decide_eq_false_iff_not, Φs, Φt, Φu, Φv, beq_self_eq_true, Φw, Φx, Φy, Φz, ΦA, eq_self, hP, h2_5, h2_0, h2_4] at hT6
        obtain ⟨h6_0, h6_4, h6_7⟩ := hT6
        clear h2_5 h2_0 h2_4 T2
        refine SX.seq_k fun K23 hK23 => ?_
        refine SX.seq_k fun K24 hK24 => ?_
        refine SX.region ?_
        simp (maxSteps := 1000000) only [upd_app, Φa, Φb, Φc, ev, Φd, Φe, Φf, Φg, Φh, Φi, Φj, Φk, reduceIte, reduceCtorEq, if_true, if_false, Φl, Φm, Φn, Φo, true_and, and_true, false_and, and_false, true_implies, forall_const, false_implies, ne_eq, not_true_eq_false, not_false_eq_true, decide_true, decide_false, Φp, and_self, true_or, or_true, dite_true, dite_false, Φq, Φr, decide_eq_true_eq, decide_eq_false_iff_not, Φs, Φt, Φu, Φv, beq_self_eq_true, Φw, Φx, Φy, Φz, ΦA, eq_self, VCplan, less_refl_t, less_drop_t, VCops, VQops, guardVC, putVC, VC, VQ, ΦB, ΦC, ΦD, ΦE, ΦF, ΦG, ΦH, List.getElem?_cons_zero, List.getElem?_cons_succ, List.getElem?_nil, List.getElem?_toArray, List.map_cons, List.map_nil, ΦI, ΦJ, ΦK, ΦL, ΦM, ΦN, ΦO, ΦP, ΦQ, ΦR, ΦS, ΦT, ΦU, ΦV, ΦW, ΦX, ΦY, Nat.reduceLT, ΦZ, Nat.reduceAdd, Nat.reduceMul, Nat.reduceSub, Nat.add_zero, Nat.zero_add, Nat.mul_one, exists_eq_left, exists_eq_left', exists_const, existsSome, Nat.zero_le, Nat.le_refl, bin_neq, bin_neqb, bin_neqs, bin_neqa, T.szA_9, T.zr_9, Tryd.underlying9, T.callable_20, T.callable_14, hP, h6_0, h6_4, h6_7]
        refine hK24 _ _ ?_
        try clear hK24 K24
        refine SX.cond_k fun X25 Y25 hX25 hY25 => ?_
        simp (maxSteps := 1000000) only [upd_app, Φa, Φb, Φc, ev, Φd, Φe, Φf, Φg, Φh, Φi, Φj, Φk, reduceIte, reduceCtorEq, if_true, if_false, Φl, Φm, Φn, Φo, true_and, and_true, false_and, and_false, true_implies, forall_const, false_implies, ne_eq, not_true_eq_false, not_false_eq_true, decide_true, decide_false, Φp, and_self, true_or, or_true, dite_true, dite_false, Φq, Φr, decide_eq_true_eq, decide_eq_false_iff_not, Φs, Φt, Φu, Φv, beq_self_eq_true, Φw, Φx, Φy, Φz, ΦA, eq_self, hP, h6_0, h6_4, h6_7, condVC]
        refine ⟨fun hc39 => hX25 ?_, fun hc39 => hY25 ?_⟩
        · clear hX25 hY25 X25 Y25
          have hr : readAll l = none := by
            rw [← readRef_eq, readRef, if_neg]
            rintro ⟨h1, h2⟩
            apply hc39
            rw [showS, if_pos (turnTo_len l _), h2, hl, txt_nums8]
          refine SX.seq_k fun K26 hK26 => ?_
          refine SX.region ?_
          simp (maxSteps := 1000000) only [upd_app, Φa, Φb, Φc, ev, Φd, Φe, Φf, Φg, Φh, Φi, Φj, Φk, reduceIte, reduceCtorEq, if_true, if_false, Φl, Φm, Φn, Φo, true_and, and_true, false_and, and_false, true_implies, forall_const, false_implies, ne_eq, not_true_eq_false, not_false_eq_true, decide_true, decide_false, Φp, and_self, true_or, or_true, dite_true, dite_false, Φq, Φr, decide_eq_true_eq, decide_eq_false_iff_not, Φs, Φt, Φu, Φv, beq_self_eq_true, Φw, Φx, Φy, Φz, ΦA, eq_self, VCplan, less_refl_t, less_drop_t, VCops, VQops, guardVC, putVC, VC, VQ, ΦB, ΦC, ΦD, ΦE, ΦF, ΦG, ΦH, List.getElem?_cons_zero, List.getElem?_cons_succ, List.getElem?_nil, List.getElem?_toArray, List.map_cons, List.map_nil, ΦI, ΦJ, ΦK, ΦL, ΦM, ΦN, ΦO, ΦP, ΦQ, ΦR, ΦS, ΦT, ΦU, ΦV, ΦW, ΦX, ΦY, Nat.reduceLT, ΦZ, Nat.reduceAdd, Nat.reduceMul, Nat.reduceSub, Nat.add_zero, Nat.zero_add, Nat.mul_one, exists_eq_left, exists_eq_left', exists_const, existsSome, Nat.zero_le, Nat.le_refl, T.callable_20, T.callable_14, hP, h6_0, h6_4, h6_7]
          refine hK26 _ _ ?_
          try clear hK26 K26
          refine SX.ret ?_
          simp only [Φd, Φe, Φf, Φg, Φh, Φi, Φj, if_true, if_false, reduceIte, retQ_ret]
          try simp only [res0, res1, res2, res3, upd_app, Φa, Φb, Φc, ev, Φd, Φe, Φf, Φg, Φh, Φi, Φj, Φk, reduceIte, reduceCtorEq, if_true, if_false, Φl, Φm, Φn, Φo, true_and, and_true, false_and, and_false, true_implies, forall_const, false_implies, ne_eq, not_true_eq_false, not_false_eq_true, decide_true, decide_false, Φp, and_self, true_or, or_true, dite_true, dite_false, Φq, Φr, decide_eq_true_eq, decide_eq_false_iff_not, Φs, Φt, Φu, Φv, beq_self_eq_true, Φw, Φx, Φy, Φz, ΦA, eq_self, hP, h6_0, h6_4, h6_7]
          exact ⟨_, _, (Less.drop _ _).trans (Less.none _), rfl, _, none, by rw [hr]; exact RowI.nil _ _, by rw [hr]; rfl, rfl⟩
        · clear hX25 hY25 X25 Y25
          have hr : readAll l = some (turnTo l 2080) := by
            have h2 : showTo (turnTo l 2080) 256 = l := by
              have := hc39
              rw [showS, if_pos (turnTo_len l _)] at this
              have h3 := nums8_txt (showTo_byte (turnTo l 2080) 256)
              rw [this, ← hl] at h3
              exact h3.symm
            rw [← readRef_eq, readRef, if_pos ⟨hlen, h2⟩]
          refine SX.skip ?_
          try simp only [Φd, Φe, Φf, Φg, Φh, Φi, Φj, if_true, if_false, reduceIte]
          refine hK23 _ _ ?_
          try clear hK23 K23
          refine SX.seq_k fun K27 hK27 => ?_
          refine SX.region ?_
          simp (maxSteps := 1000000) only [upd_app, Φa, Φb, Φc, ev, Φd, Φe, Φf, Φg, Φh, Φi, Φj, Φk, reduceIte, reduceCtorEq, if_true, if_false, Φl, Φm, Φn, Φo, true_and, and_true, false_and, and_false, true_implies, forall_const, false_implies, ne_eq, not_true_eq_false, not_false_eq_true, decide_true, decide_false, Φp, and_self, true_or, or_true, dite_true, dite_false, Φq, Φr, decide_eq_true_eq, decide_eq_false_iff_not, Φs, Φt, Φu, Φv, beq_self_eq_true, Φw, Φx, Φy, Φz, ΦA, eq_self, VCplan, less_refl_t, less_drop_t, VCops, VQops, guardVC, putVC, VC, VQ, ΦB, ΦC, ΦD, ΦE, ΦF, ΦG, ΦH, List.getElem?_cons_zero, List.getElem?_cons_succ, List.getElem?_nil, List.getElem?_toArray, List.map_cons, List.map_nil, ΦI, ΦJ, ΦK, ΦL, ΦM, ΦN, ΦO, ΦP, ΦQ, ΦR, ΦS, ΦT, ΦU, ΦV, ΦW, ΦX, ΦY, Nat.reduceLT, ΦZ, Nat.reduceAdd, Nat.reduceMul, Nat.reduceSub, Nat.add_zero, Nat.zero_add, Nat.mul_one, exists_eq_left, exists_eq_left', exists_const, existsSome, Nat.zero_le, Nat.le_refl, T.callable_20, T.callable_14, hP, h6_0, h6_4, h6_7]
          refine hK27 _ _ ?_
          try clear hK27 K27
          refine SX.ret ?_
          simp only [Φd, Φe, Φf, Φg, Φh, Φi, Φj, if_true, if_false, reduceIte, retQ_ret]
          try simp only [res0, res1, res2, res3, upd_app, Φa, Φb, Φc, ev, Φd, Φe, Φf, Φg, Φh, Φi, Φj, Φk, reduceIte, reduceCtorEq, if_true, if_false, Φl, Φm, Φn, Φo, true_and, and_true, false_and, and_false, true_implies, forall_const, false_implies, ne_eq, not_true_eq_false, not_false_eq_true, decide_true, decide_false, Φp, and_self, true_or, or_true, dite_true, dite_false, Φq, Φr, decide_eq_true_eq, decide_eq_false_iff_not, Φs, Φt, Φu, Φv, beq_self_eq_true, Φw, Φx, Φy, Φz, ΦA, eq_self, hP, h6_0, h6_4, h6_7]
          refine ⟨_, _, Less.refl _, rfl, _, some (b, .cells (ints .u8 (turnTo l 2080)).toArray 5 (0, 0)), ?_, by rw [hr]; rfl, rfl⟩
          rw [hr]
          have := RowI.mk2 (e := 5) (r := b) (l := turnTo l 2080) (k := .u8) (cap := 256) (junk := []) (by rw [turnTo_len]; omega) (by rw [turnTo_len]; rfl)
          rw [turnTo_len, List.append_nil] at this
          exact this
end Go.Proofs.YtcakdalajafmoaaDoor
