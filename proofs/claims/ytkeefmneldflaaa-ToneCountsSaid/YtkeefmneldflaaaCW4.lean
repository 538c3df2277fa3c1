/- A part of the proof of ToneCountsSaid. -/
import Derived.Test.YtkeefmneldflaaaCW3
set_option linter.unusedVariables false
set_option linter.unusedSimpArgs false
namespace Go.Proofs.Ytkeefmneldflaaa
open Go.RowKit Go.SX
open Go.SX renaming env0_zero → Φa, env0_succ → Φb, env0_nil → Φc, andThen_normal → Φd, andThen_ret → Φe, andThen_exit → Φf, inBlk_normal → Φg, inBlk_ret → Φh, inBlk_exit → Φi
open Nat renaming reduceEqDiff → Φj, reduceBEq → Φk, reduceLeDiff → Ψb, reduceAdd → Ψc, reduceMul → Ψd, reduceSub → Ψe
open Bool renaming not_true → Φl, not_false → Φm, false_eq_true → Φn, true_eq_false → Φo, not_eq_true' → Φq, not_eq_false' → Φr, not_eq_true → Φt, not_eq_false → Φu, and_true → Φw, true_and → Φx, and_self → Φy, and_false → Φz, false_and → ΦA
open Int renaming reduceEq → Φp, natCast_inj → Φv
open Decidable renaming not_not → Φs
open Option renaming map_some → ΦB, map_none → ΦC, bind_some → ΦD, bind_none → ΦE, isSome_some → ΦF, isSome_none → ΦG
open Option.some renaming injEq → ΦH
open List renaming map_cons → ΦI, map_nil → ΦJ, map_toArray → ΦK, toList_toArray → ΦL, append_toArray → ΦM, nil_append → ΦN, cons_append → ΦO, append_nil → ΦP, flatMap_cons → ΦQ, flatMap_nil → ΦR, length_cons → ΦS, length_nil → ΦT, set_cons_zero → ΦU, set_cons_succ → ΦV, drop_zero → ΦW, drop_succ_cons → ΦX, take_succ_cons → ΦY, take_zero → ΦZ, size_toArray → Ψa
set_option maxHeartbeats 1000000 in
set_option maxRecDepth 100000 in
theorem sameInts_spec {Γ : Ctx} (hP : Γ.P = Try.prog) {L : Hp} {va vb : Value} {xs ys : List Int} (ha : SlI .i64 (Cell Γ L) va xs) (hb : SlI .i64 (Cell Γ L) vb ys) (hm : xs.length ≤ 140737488351232) :
    SCall Γ 17 #[va, vb] L (fun v L' => v = .bool (decide (xs = ys)) ∧ L' = L) := by
  obtain ⟨A, ca, rfl, hca', hA⟩ := ha
  obtain ⟨B, cb, rfl, hcb', hB⟩ := hb
  refine SCall.enter (n := 26) (res1 4) (hP ▸ Try.func17) rfl rfl (by simp) (res1_ok rfl) ?_
  refine SX.seq_k fun K1 hK1 => ?_
  refine SX.region ?_
  simp (maxSteps := 1000000) only [upd_app, Φa, Φb, Φc, ev, Φd, Φe, Φf, Φg, Φh, Φi, Φj, Φk, reduceIte, reduceCtorEq, if_true, if_false, Φl, Φm, Φn, Φo, true_and, and_true, false_and, and_false, true_implies, forall_const, false_implies, ne_eq, not_true_eq_false, not_false_eq_true, decide_true, decide_false, Φp, and_self, true_or, or_true, dite_true, dite_false, Φq, Φr, decide_eq_true_eq, decide_eq_false_iff_not, Φs, Φt, Φu, Φv, beq_self_eq_true, Φw, Φx, Φy, Φz, ΦA, eq_self, VCplan, less_refl_t, less_drop_t, VCops, VQops, guardVC, putVC, VC, VQ, ΦB, ΦC, ΦD, ΦE, ΦF, ΦG, ΦH, List.getElem?_cons_zero, List.getElem?_cons_succ, List.getElem?_nil, List.getElem?_toArray, ΦI, ΦJ, ΦK, ΦL, ΦM, ΦN, ΦO, ΦP, ΦQ, ΦR, ΦS, ΦT, ΦU, ΦV, ΦW, ΦX, ΦY, ΦZ, Ψa, Nat.reduceLT, Ψb, Ψc, Ψd, Ψe, Nat.add_zero, Nat.zero_add, Nat.mul_one, exists_eq_left, exists_eq_left', exists_const, existsSome, Nat.zero_le, Nat.le_refl, hP]
  refine hK1 _ _ ?_
  try clear hK1 K1
  refine SX.seq_k fun K2 hK2 => ?_
  refine SX.seq_k fun K3 hK3 => ?_
  refine SX.region ?_
  simp (maxSteps := 1000000) only [upd_app, Φa, Φb, Φc, ev, Φd, Φe, Φf, Φg, Φh, Φi, Φj, Φk, reduceIte, reduceCtorEq, if_true, if_false, Φl, Φm, Φn, Φo, true_and, and_true, false_and, and_false, true_implies, forall_const, false_implies, ne_eq, not_true_eq_false, not_false_eq_true, decide_true, decide_false, Φp, and_self, true_or, or_true, dite_true, dite_false, Φq, Φr, decide_eq_true_eq, decide_eq_false_iff_not, Φs, Φt, Φu, Φv, beq_self_eq_true, Φw, Φx, Φy, Φz, ΦA, eq_self, VCplan, less_refl_t, less_drop_t, VCops, VQops, guardVC, putVC, VC, VQ, ΦB, ΦC, ΦD, ΦE, ΦF, ΦG, ΦH, List.getElem?_cons_zero, List.getElem?_cons_succ, List.getElem?_nil, List.getElem?_toArray, ΦI, ΦJ, ΦK, ΦL, ΦM, ΦN, ΦO, ΦP, ΦQ, ΦR, ΦS, ΦT, ΦU, ΦV, ΦW, ΦX, ΦY, ΦZ, Ψa, Nat.reduceLT, Ψb, Ψc, Ψd, Ψe, Nat.add_zero, Nat.zero_add, Nat.mul_one, exists_eq_left, exists_eq_left', exists_const, existsSome, Nat.zero_le, Nat.le_refl, qcall_f, call_f, len_slice, len_str, cap_slice, min_int, max_int, T.elS_35, T.szA_35, T.zr_35, Try.underlying35, bin_neq, bin_neqb, bin_neqs, bin_neqa, T.szA_3, T.zr_3, Try.underlying3, hP]
  refine hK3 _ _ ?_
  try clear hK3 K3
  refine SX.cond_k fun X4 Y4 hX4 hY4 => ?_
  simp (maxSteps := 1000000) only [upd_app, Φa, Φb, Φc, ev, Φd, Φe, Φf, Φg, Φh, Φi, Φj, Φk, reduceIte, reduceCtorEq, if_true, if_false, Φl, Φm, Φn, Φo, true_and, and_true, false_and, and_false, true_implies, forall_const, false_implies, ne_eq, not_true_eq_false, not_false_eq_true, decide_true, decide_false, Φp, and_self, true_or, or_true, dite_true, dite_false, Φq, Φr, decide_eq_true_eq, decide_eq_false_iff_not, Φs, Φt, Φu, Φv, beq_self_eq_true, Φw, Φx, Φy, Φz, ΦA, eq_self, hP, condVC]
  refine ⟨fun hc10 => hX4 ?_, fun hc10 => hY4 ?_⟩
  · clear hX4 hY4 X4 Y4
    refine SX.seq_k fun K5 hK5 => ?_
    refine SX.region ?_
    simp (maxSteps := 1000000) only [upd_app, Φa, Φb, Φc, ev, Φd, Φe, Φf, Φg, Φh, Φi, Φj, Φk, reduceIte, reduceCtorEq, if_true, if_false, Φl, Φm, Φn, Φo, true_and, and_true, false_and, and_false, true_implies, forall_const, false_implies, ne_eq, not_true_eq_false, not_false_eq_true, decide_true, decide_false, Φp, and_self, true_or, or_true, dite_true, dite_false, Φq, Φr, decide_eq_true_eq, decide_eq_false_iff_not, Φs, Φt, Φu, Φv, beq_self_eq_true, Φw, Φx, Φy, Φz, ΦA, eq_self, VCplan, less_refl_t, less_drop_t, VCops, VQops, guardVC, putVC, VC, VQ, ΦB, ΦC, ΦD, ΦE, ΦF, ΦG, ΦH, List.getElem?_cons_zero, List.getElem?_cons_succ, List.getElem?_nil, List.getElem?_toArray, ΦI, ΦJ, ΦK, ΦL, ΦM, ΦN, ΦO, ΦP, ΦQ, ΦR, ΦS, ΦT, ΦU, ΦV, ΦW, ΦX, ΦY, ΦZ, Ψa, Nat.reduceLT, Ψb, Ψc, Ψd, Ψe, Nat.add_zero, Nat.zero_add, Nat.mul_one, exists_eq_left, exists_eq_left', exists_const, existsSome, Nat.zero_le, Nat.le_refl, hP]
    refine hK5 _ _ ?_
    try clear hK5 K5
    refine SX.ret ?_
    simp only [Φd, Φe, Φf, Φg, Φh, Φi, Φj, if_true, if_false, reduceIte, retQ_ret]
    try simp only [res0, res1, res2, res3, upd_app, Φa, Φb, Φc, ev, Φd, Φe, Φf, Φg, Φh, Φi, Φj, Φk, reduceIte, reduceCtorEq, if_true, if_false, Φl, Φm, Φn, Φo, true_and, and_true, false_and, and_false, true_implies, forall_const, false_implies, ne_eq, not_true_eq_false, not_false_eq_true, decide_true, decide_false, Φp, and_self, true_or, or_true, dite_true, dite_false, Φq, Φr, decide_eq_true_eq, decide_eq_false_iff_not, Φs, Φt, Φu, Φv, beq_self_eq_true, Φw, Φx, Φy, Φz, ΦA, eq_self, hP]
    exact ⟨_, _, Less.refl _, rfl, by rw [decide_eq_false (fun e => hc10 (by rw [e]))], rfl⟩
  · clear hX4 hY4 X4 Y4
    refine SX.skip ?_
    try simp only [Φd, Φe, Φf, Φg, Φh, Φi, Φj, if_true, if_false, reduceIte]
    refine hK2 _ _ ?_
    try clear hK2 K2
    refine SX.seq_k fun K6 hK6 => ?_
    refine SX.seq_k fun K7 hK7 => ?_
    refine SX.region ?_
    simp (maxSteps := 1000000) only [upd_app, Φa, Φb, Φc, ev, Φd, Φe, Φf, Φg, Φh, Φi, Φj, Φk, reduceIte, reduceCtorEq, if_true, if_false, Φl, Φm, Φn, Φo, true_and, and_true, false_and, and_false, true_implies, forall_const, false_implies, ne_eq, not_true_eq_false, not_false_eq_true, decide_true, decide_false, Φp, and_self, true_or, or_true, dite_true, dite_false, Φq, Φr, decide_eq_true_eq, decide_eq_false_iff_not, Φs, Φt, Φu, Φv, beq_self_eq_true, Φw, Φx, Φy, Φz, ΦA, eq_self, VCplan, less_refl_t, less_drop_t, VCops, VQops, guardVC, putVC, VC, VQ, ΦB, ΦC, ΦD, ΦE, ΦF, ΦG, ΦH, List.getElem?_cons_zero, List.getElem?_cons_succ, List.getElem?_nil, List.getElem?_toArray, ΦI, ΦJ, ΦK, ΦL, ΦM, ΦN, ΦO, ΦP, ΦQ, ΦR, ΦS, ΦT, ΦU, ΦV, ΦW, ΦX, ΦY, ΦZ, Ψa, Nat.reduceLT, Ψb, Ψc, Ψd, Ψe, Nat.add_zero, Nat.zero_add, Nat.mul_one, exists_eq_left, exists_eq_left', exists_const, existsSome, Nat.zero_le, Nat.le_refl, hP]
    refine hK7 _ _ ?_
    try clear hK7 K7
    refine SX.block ?_
    refine SX.live [0, 1, 5] (fun T1 hT1 => ?_)
    simp only [forall_mem_cons', forall_mem_nil', upd_app, Φa, Φb, Φc, ev, Φd, Φe, Φf, Φg, Φh, Φi, Φj, Φk, reduceIte, reduceCtorEq, if_true, if_false, Φl, Φm, Φn, Φo, true_and, and_true, false_and, and_false, true_implies, forall_const, false_implies, ne_eq, not_true_eq_false, not_false_eq_true, decide_true, decide_false, Φp, and_self, true_or, or_true, dite_true, dite_false, Φq, Φr, decide_eq_true_eq, decide_eq_false_iff_not, Φs, Φt, Φu, Φv, beq_self_eq_true, Φw, Φx, Φy, Φz, ΦA, eq_self, hP] at hT1
    obtain ⟨h1_0, h1_1, h1_5⟩ := hT1
    refine SX.loop_k (fun (ss : (Nat)) T L' => (fun (k : Nat) => T 5 = .int .i64 (k : Int) ∧ T 0 = T1 0 ∧ T 1 = T1 1 ∧ L' = L ∧ (k ≤ xs.length ∧ ∀ j, j < k → xs[j]? = ys[j]?)) (ss)) (fun (ss : (Nat)) => (fun (k : Nat) => xs.length - k) (ss)) 0 ?_ ?_
    · try dsimp only
      refine ⟨?_, ?_, ?_, ?_, ?_⟩
      · first | exact h1_5 | (rw [h1_5]; rfl) | (rw [h1_5]; simp; done)
      · rfl
      · rfl
      · rfl
      · exact ⟨Nat.zero_le _, fun j hj => absurd hj (Nat.not_lt_zero _)⟩
    · intro k T2 L2 hI K8 hK8
      try dsimp only at hI hK8
      simp only [h1_0, h1_1] at hI hK8
      obtain ⟨h2_5, h2_0, h2_1, hL2, hk, hsame⟩ := hI
      replace hL2 := hL2.symm
      subst hL2
      clear h1_0 h1_1 h1_5 T1
      refine SX.seq_k fun K9 hK9 => ?_
      refine SX.seq_k fun K10 hK10 => ?_
      refine SX.region ?_
      simp (maxSteps := 1000000) only [upd_app, Φa, Φb, Φc, ev, Φd, Φe, Φf, Φg, Φh, Φi, Φj, Φk, reduceIte, reduceCtorEq, if_true, if_false, Φl, Φm, Φn, Φo, true_and, and_true, false_and, and_false, true_implies, forall_const, false_implies, ne_eq, not_true_eq_false, not_false_eq_true, decide_true, decide_false, Φp, and_self, true_or, or_true, dite_true, dite_false, Φq, Φr, decide_eq_true_eq, decide_eq_false_iff_not, Φs, Φt, Φu, Φv, beq_self_eq_true, Φw, Φx, Φy, Φz, ΦA, eq_self, VCplan, less_refl_t, less_drop_t, VCops, VQops, guardVC, putVC, VC, VQ, ΦB, ΦC, ΦD, ΦE, ΦF, ΦG, ΦH, List.getElem?_cons_zero, List.getElem?_cons_succ, List.getElem?_nil, List.getElem?_toArray, ΦI, ΦJ, ΦK, ΦL, ΦM, ΦN, ΦO, ΦP, ΦQ, ΦR, ΦS, ΦT, ΦU, ΦV, ΦW, ΦX, ΦY, ΦZ, Ψa, Nat.reduceLT, Ψb, Ψc, Ψd, Ψe, Nat.add_zero, Nat.zero_add, Nat.mul_one, exists_eq_left, exists_eq_left', exists_const, existsSome, Nat.zero_le, Nat.le_refl, qcall_f, call_f, len_slice, len_str, cap_slice, min_int, max_int, T.elS_35, T.szA_35, T.zr_35, Try.underlying35, bin_lss, hP, h2_5, h2_0, h2_1]
      refine hK10 _ _ ?_
      try clear hK10 K10
      refine SX.cond_k fun X11 Y11 hX11 hY11 => ?_
      simp (maxSteps := 1000000) only [upd_app, Φa, Φb, Φc, ev, Φd, Φe, Φf, Φg, Φh, Φi, Φj, Φk, reduceIte, reduceCtorEq, if_true, if_false, Φl, Φm, Φn, Φo, true_and, and_true, false_and, and_false, true_implies, forall_const, false_implies, ne_eq, not_true_eq_false, not_false_eq_true, decide_true, decide_false, Φp, and_self, true_or, or_true, dite_true, dite_false, Φq, Φr, decide_eq_true_eq, decide_eq_false_iff_not, Φs, Φt, Φu, Φv, beq_self_eq_true, Φw, Φx, Φy, Φz, ΦA, eq_self, hP, h2_5, h2_0, h2_1, condVC]
      refine ⟨fun hc14 => hX11 ?_, fun hc14 => hY11 ?_⟩
      · clear hX11 hY11 X11 Y11
        refine SX.skip ?_
        try simp only [Φd, Φe, Φf, Φg, Φh, Φi, Φj, if_true, if_false, reduceIte]
        refine hK9 _ _ ?_
        try clear hK9 K9
        refine SX.seq_k fun K12 hK12 => ?_
        refine SX.block ?_
        refine SX.seq_k fun K13 hK13 => ?_
        have hx : xs[k]? = some xs[k] := List.getElem?_eq_getElem (by omega)
        have hy : ys[k]? = some ys[k] := List.getElem?_eq_getElem (by omega)
        obtain ⟨a, ha, hca⟩ := hA k _ hx
        obtain ⟨b, hb, hcb⟩ := hB k _ hy
        simp only [Nat.mul_one] at hca hcb
        refine SX.quiet (hP ▸ T.mixed) (by kernel_rfl) ?_
        simp (maxSteps := 1000000) only [upd_app, Φa, Φb, Φc, ev, Φd, Φe, Φf, Φg, Φh, Φi, Φj, Φk, reduceIte, reduceCtorEq, if_true, if_false, Φl, Φm, Φn, Φo, true_and, and_true, false_and, and_false, true_implies, forall_const, false_implies, ne_eq, not_true_eq_false, not_false_eq_true, decide_true, decide_false, Φp, and_self, true_or, or_true, dite_true, dite_false, Φq, Φr, decide_eq_true_eq, decide_eq_false_iff_not, Φs, Φt, Φu, Φv, beq_self_eq_true, Φw, Φx, Φy, Φz, ΦA, eq_self, VCplan, less_refl_t, less_drop_t, VCops, VQops, guardVC, putVC, VC, VQ, ΦB, ΦC, ΦD, ΦE, ΦF, ΦG, ΦH, List.getElem?_cons_zero, List.getElem?_cons_succ, List.getElem?_nil, List.getElem?_toArray, ΦI, ΦJ, ΦK, ΦL, ΦM, ΦN, ΦO, ΦP, ΦQ, ΦR, ΦS, ΦT, ΦU, ΦV, ΦW, ΦX, ΦY, ΦZ, Ψa, Nat.reduceLT, Ψb, Ψc, Ψd, Ψe, Nat.add_zero, Nat.zero_add, Nat.mul_one, exists_eq_left, exists_eq_left', exists_const, existsSome, Nat.zero_le, Nat.le_refl, ia_slice, ia_arr, Addr.add_lit, Addr.add_zero', add_addS, Int.toNat_natCast, Int.toNat_zero, Int.toNat_one, Int.reduceToNat, T.elS_35, T.szA_35, T.zr_35, Try.underlying35, ld_ptr, loadVC, loadN, T.szA_3, T.zr_3, Try.underlying3, bin_neq, bin_neqb, bin_neqs, bin_neqa, hP, h2_5, h2_0, h2_1]
        refine ⟨⟨by omega, by omega⟩, a, ha, _, hca, ⟨by omega, by omega⟩, b, hb, _, hcb, ?_⟩
        try simp (maxSteps := 1000000) only [upd_app, Φa, Φb, Φc, ev, Φd, Φe, Φf, Φg, Φh, Φi, Φj, Φk, reduceIte, reduceCtorEq, if_true, if_false, Φl, Φm, Φn, Φo, true_and, and_true, false_and, and_false, true_implies, forall_const, false_implies, ne_eq, not_true_eq_false, not_false_eq_true, decide_true, decide_false, Φp, and_self, true_or, or_true, dite_true, dite_false, Φq, Φr, decide_eq_true_eq, decide_eq_false_iff_not, Φs, Φt, Φu, Φv, beq_self_eq_true, Φw, Φx, Φy, Φz, ΦA, eq_self, VCplan, less_refl_t, less_drop_t, VCops, VQops, guardVC, putVC, VC, VQ, ΦB, ΦC, ΦD, ΦE, ΦF, ΦG, ΦH, List.getElem?_cons_zero, List.getElem?_cons_succ, List.getElem?_nil, List.getElem?_toArray, ΦI, ΦJ, ΦK, ΦL, ΦM, ΦN, ΦO, ΦP, ΦQ, ΦR, ΦS, ΦT, ΦU, ΦV, ΦW, ΦX, ΦY, ΦZ, Ψa, Nat.reduceLT, Ψb, Ψc, Ψd, Ψe, Nat.add_zero, Nat.zero_add, Nat.mul_one, exists_eq_left, exists_eq_left', exists_const, existsSome, Nat.zero_le, Nat.le_refl, ia_slice, ia_arr, Addr.add_lit, Addr.add_zero', add_addS, Int.toNat_natCast, Int.toNat_zero, Int.toNat_one, Int.reduceToNat, T.elS_35, T.szA_35, T.zr_35, Try.underlying35, ld_ptr, loadVC, loadN, T.szA_3, T.zr_3, Try.underlying3, bin_neq, bin_neqb, bin_neqs, bin_neqa, hP, h2_5, h2_0, h2_1]
        refine hK13 _ _ ?_
        try clear hK13 K13
        refine SX.live [0, 1, 5, 25] (fun T3 hT3 => ?_)
        simp only [forall_mem_cons', forall_mem_nil', upd_app, Φa, Φb, Φc, ev, Φd, Φe, Φf, Φg, Φh, Φi, Φj, Φk, reduceIte, reduceCtorEq, if_true, if_false, Φl, Φm, Φn, Φo, true_and, and_true, false_and, and_false, true_implies, forall_const, false_implies, ne_eq, not_true_eq_false, not_false_eq_true, decide_true, decide_false, Φp, and_self, true_or, or_true, dite_true, dite_false, Φq, Φr, decide_eq_true_eq, decide_eq_false_iff_not, Φs, Φt, Φu, Φv, beq_self_eq_true, Φw, Φx, Φy, Φz, ΦA, eq_self, hP, h2_5, h2_0, h2_1] at hT3
        obtain ⟨h3_0, h3_1, h3_5, h3_25⟩ := hT3
        clear h2_5 h2_0 h2_1 T2
        refine SX.cond_k fun X14 Y14 hX14 hY14 => ?_
        simp (maxSteps := 1000000) only [upd_app, Φa, Φb, Φc, ev, Φd, Φe, Φf, Φg, Φh, Φi, Φj, Φk, reduceIte, reduceCtorEq, if_true, if_false, Φl, Φm, Φn, Φo, true_and, and_true, false_and, and_false, true_implies, forall_const, false_implies, ne_eq, not_true_eq_false, not_false_eq_true, decide_true, decide_false, Φp, and_self, true_or, or_true, dite_true, dite_false, Φq, Φr, decide_eq_true_eq, decide_eq_false_iff_not, Φs, Φt, Φu, Φv, beq_self_eq_true, Φw, Φx, Φy, Φz, ΦA, eq_self, hP, h3_0, h3_1, h3_5, h3_25, condVC]
        refine ⟨fun hc25 => hX14 ?_, fun hc25 => hY14 ?_⟩
        · clear hX14 hY14 X14 Y14
          refine SX.seq_k fun K15 hK15 => ?_
          refine SX.region ?_
          simp (maxSteps := 1000000) only [upd_app, Φa, Φb, Φc, ev, Φd, Φe, Φf, Φg, Φh, Φi, Φj, Φk, reduceIte, reduceCtorEq, if_true, if_false, Φl, Φm, Φn, Φo, true_and, and_true, false_and, and_false, true_implies, forall_const, false_implies, ne_eq, not_true_eq_false, not_false_eq_true, decide_true, decide_false, Φp, and_self, true_or, or_true, dite_true, dite_false, Φq, Φr, decide_eq_true_eq, decide_eq_false_iff_not, Φs, Φt, Φu, Φv, beq_self_eq_true, Φw, Φx, Φy, Φz, ΦA, eq_self, VCplan, less_refl_t, less_drop_t, VCops, VQops, guardVC, putVC, VC, VQ, ΦB, ΦC, ΦD, ΦE, ΦF, ΦG, ΦH, List.getElem?_cons_zero, List.getElem?_cons_succ, List.getElem?_nil, List.getElem?_toArray, ΦI, ΦJ, ΦK, ΦL, ΦM, ΦN, ΦO, ΦP, ΦQ, ΦR, ΦS, ΦT, ΦU, ΦV, ΦW, ΦX, ΦY, ΦZ, Ψa, Nat.reduceLT, Ψb, Ψc, Ψd, Ψe, Nat.add_zero, Nat.zero_add, Nat.mul_one, exists_eq_left, exists_eq_left', exists_const, existsSome, Nat.zero_le, Nat.le_refl, hP, h3_0, h3_1, h3_5, h3_25]
          refine hK15 _ _ ?_
          try clear hK15 K15
          refine SX.ret ?_
          simp only [Φd, Φe, Φf, Φg, Φh, Φi, Φj, if_true, if_false, reduceIte, retQ_ret]
          try simp only [res0, res1, res2, res3, upd_app, Φa, Φb, Φc, ev, Φd, Φe, Φf, Φg, Φh, Φi, Φj, Φk, reduceIte, reduceCtorEq, if_true, if_false, Φl, Φm, Φn, Φo, true_and, and_true, false_and, and_false, true_implies, forall_const, false_implies, ne_eq, not_true_eq_false, not_false_eq_true, decide_true, decide_false, Φp, and_self, true_or, or_true, dite_true, dite_false, Φq, Φr, decide_eq_true_eq, decide_eq_false_iff_not, Φs, Φt, Φu, Φv, beq_self_eq_true, Φw, Φx, Φy, Φz, ΦA, eq_self, hP, h3_0, h3_1, h3_5, h3_25]
          exact ⟨_, _, Less.refl _, rfl, by rw [decide_eq_false (fun e => hc25 (by subst e; rfl))], rfl⟩
        · clear hX14 hY14 X14 Y14
          refine SX.skip ?_
          try simp only [Φd, Φe, Φf, Φg, Φh, Φi, Φj, if_true, if_false, reduceIte]
          refine hK12 _ _ ?_
          try clear hK12 K12
          refine SX.region ?_
          simp (maxSteps := 1000000) only [upd_app, Φa, Φb, Φc, ev, Φd, Φe, Φf, Φg, Φh, Φi, Φj, Φk, reduceIte, reduceCtorEq, if_true, if_false, Φl, Φm, Φn, Φo, true_and, and_true, false_and, and_false, true_implies, forall_const, false_implies, ne_eq, not_true_eq_false, not_false_eq_true, decide_true, decide_false, Φp, and_self, true_or, or_true, dite_true, dite_false, Φq, Φr, decide_eq_true_eq, decide_eq_false_iff_not, Φs, Φt, Φu, Φv, beq_self_eq_true, Φw, Φx, Φy, Φz, ΦA, eq_self, VCplan, less_refl_t, less_drop_t, VCops, VQops, guardVC, putVC, VC, VQ, ΦB, ΦC, ΦD, ΦE, ΦF, ΦG, ΦH, List.getElem?_cons_zero, List.getElem?_cons_succ, List.getElem?_nil, List.getElem?_toArray, ΦI, ΦJ, ΦK, ΦL, ΦM, ΦN, ΦO, ΦP, ΦQ, ΦR, ΦS, ΦT, ΦU, ΦV, ΦW, ΦX, ΦY, ΦZ, Ψa, Nat.reduceLT, Ψb, Ψc, Ψd, Ψe, Nat.add_zero, Nat.zero_add, Nat.mul_one, exists_eq_left, exists_eq_left', exists_const, existsSome, Nat.zero_le, Nat.le_refl, bin_add, bin_adds, hP, h3_0, h3_1, h3_5, h3_25]
          refine hK8 (k + 1) _ (L) _ (by first | exact Less.refl _ | exact Less.drop _ _ | exact Less.drops (Less.drop _ _) | exact Less.drops (Less.drops (Less.drop _ _)) | exact Less.drops (Less.drops (Less.drops (Less.drop _ _))) | exact Less.drops (Less.drops (Less.drops (Less.drops (Less.drop _ _))))) ?_ ?_
          · try dsimp only
            refine ⟨?_, ?_, ?_, ?_, ?_⟩
            · simp (maxSteps := 1000000) only [upd_app, Φa, Φb, Φc, ev, Φd, Φe, Φf, Φg, Φh, Φi, Φj, Φk, reduceIte, reduceCtorEq, if_true, if_false, Φl, Φm, Φn, Φo, true_and, and_true, false_and, and_false, true_implies, forall_const, false_implies, ne_eq, not_true_eq_false, not_false_eq_true, decide_true, decide_false, Φp, and_self, true_or, or_true, dite_true, dite_false, Φq, Φr, decide_eq_true_eq, decide_eq_false_iff_not, Φs, Φt, Φu, Φv, beq_self_eq_true, Φw, Φx, Φy, Φz, ΦA, eq_self, hP, h3_0, h3_1, h3_5, h3_25]
              rw [inc64 (by omega)]
            · simp (maxSteps := 1000000) only [upd_app, Φa, Φb, Φc, ev, Φd, Φe, Φf, Φg, Φh, Φi, Φj, Φk, reduceIte, reduceCtorEq, if_true, if_false, Φl, Φm, Φn, Φo, true_and, and_true, false_and, and_false, true_implies, forall_const, false_implies, ne_eq, not_true_eq_false, not_false_eq_true, decide_true, decide_false, Φp, and_self, true_or, or_true, dite_true, dite_false, Φq, Φr, decide_eq_true_eq, decide_eq_false_iff_not, Φs, Φt, Φu, Φv, beq_self_eq_true, Φw, Φx, Φy, Φz, ΦA, eq_self, hP, h3_0, h3_1, h3_5, h3_25]
            · simp (maxSteps := 1000000) only [upd_app, Φa, Φb, Φc, ev, Φd, Φe, Φf, Φg, Φh, Φi, Φj, Φk, reduceIte, reduceCtorEq, if_true, if_false, Φl, Φm, Φn, Φo, true_and, and_true, false_and, and_false, true_implies, forall_const, false_implies, ne_eq, not_true_eq_false, not_false_eq_true, decide_true, decide_false, Φp, and_self, true_or, or_true, dite_true, dite_false, Φq, Φr, decide_eq_true_eq, decide_eq_false_iff_not, Φs, Φt, Φu, Φv, beq_self_eq_true, Φw, Φx, Φy, Φz, ΦA, eq_self, hP, h3_0, h3_1, h3_5, h3_25]
            · rfl
            · refine ⟨by omega, fun j hj => ?_⟩
              rcases Nat.lt_succ_iff_lt_or_eq.1 hj with h | rfl
              · exact hsame j h
              · rw [hx, hy, hc25]
          · (try dsimp only); omega
      · clear hX11 hY11 X11 Y11
        refine SX.exit ?_
        try simp only [Φd, Φe, Φf, Φg, Φh, Φi, Φj, if_true, if_false, reduceIte]
        refine hK6 _ _ ?_
        try clear hK6 K6
        refine SX.seq_k fun K16 hK16 => ?_
        refine SX.region ?_
        simp (maxSteps := 1000000) only [upd_app, Φa, Φb, Φc, ev, Φd, Φe, Φf, Φg, Φh, Φi, Φj, Φk, reduceIte, reduceCtorEq, if_true, if_false, Φl, Φm, Φn, Φo, true_and, and_true, false_and, and_false, true_implies, forall_const, false_implies, ne_eq, not_true_eq_false, not_false_eq_true, decide_true, decide_false, Φp, and_self, true_or, or_true, dite_true, dite_false, Φq, Φr, decide_eq_true_eq, decide_eq_false_iff_not, Φs, Φt, Φu, Φv, beq_self_eq_true, Φw, Φx, Φy, Φz, ΦA, eq_self, VCplan, less_refl_t, less_drop_t, VCops, VQops, guardVC, putVC, VC, VQ, ΦB, ΦC, ΦD, ΦE, ΦF, ΦG, ΦH, List.getElem?_cons_zero, List.getElem?_cons_succ, List.getElem?_nil, List.getElem?_toArray, ΦI, ΦJ, ΦK, ΦL, ΦM, ΦN, ΦO, ΦP, ΦQ, ΦR, ΦS, ΦT, ΦU, ΦV, ΦW, ΦX, ΦY, ΦZ, Ψa, Nat.reduceLT, Ψb, Ψc, Ψd, Ψe, Nat.add_zero, Nat.zero_add, Nat.mul_one, exists_eq_left, exists_eq_left', exists_const, existsSome, Nat.zero_le, Nat.le_refl, hP, h2_5, h2_0, h2_1]
        refine hK16 _ _ ?_
        try clear hK16 K16
        refine SX.ret ?_
        simp only [Φd, Φe, Φf, Φg, Φh, Φi, Φj, if_true, if_false, reduceIte, retQ_ret]
        try simp only [res0, res1, res2, res3, upd_app, Φa, Φb, Φc, ev, Φd, Φe, Φf, Φg, Φh, Φi, Φj, Φk, reduceIte, reduceCtorEq, if_true, if_false, Φl, Φm, Φn, Φo, true_and, and_true, false_and, and_false, true_implies, forall_const, false_implies, ne_eq, not_true_eq_false, not_false_eq_true, decide_true, decide_false, Φp, and_self, true_or, or_true, dite_true, dite_false, Φq, Φr, decide_eq_true_eq, decide_eq_false_iff_not, Φs, Φt, Φu, Φv, beq_self_eq_true, Φw, Φx, Φy, Φz, ΦA, eq_self, hP, h2_5, h2_0, h2_1]
        exact ⟨_, _, Less.refl _, rfl, by rw [decide_eq_true (list_eq_of hc10 (fun j hj => hsame j (by omega)))], rfl⟩
theorem eqT_27 : EqT Try.prog 27 [.i .i64, .i .i64] := ⟨by kernel_rfl, by kernel_rfl, by kernel_rfl, by kernel_rfl, by kernel_rfl⟩
theorem eqT_34 : EqT Try.prog 34 [.i .i64, .i .i64] := ⟨by kernel_rfl, by kernel_rfl, by kernel_rfl, by kernel_rfl, by kernel_rfl⟩

def Wf2 (xs : List B2) : Prop := ∀ x ∈ xs, (-9223372036854775808 ≤ x.1 ∧ x.1 ≤ 9223372036854775807) ∧ (-9223372036854775808 ≤ x.2 ∧ x.2 ≤ 9223372036854775807)
theorem at2 {Γ : Ctx} {L : Hp} {A : Option Addr} {xs : List B2} (hA : ∀ (j : Nat) (x : B2), xs[j]? = some x → ∃ a, A = some a ∧ RS c2 (Cell Γ L) (a.add (j * 2)) x) {k : Nat} (hk : k < xs.length) :
    ∃ a x, A = some a ∧ xs[k]? = some x ∧ Cell Γ L (a.add (k * 2)) (.int .i64 x.1) ∧ Cell Γ L (a.add (k * 2 + 1)) (.int .i64 x.2) := by
  have hx : xs[k]? = some xs[k] := List.getElem?_eq_getElem hk
  obtain ⟨a, ha, h⟩ := hA k _ hx
  have h0 := h 0 _ rfl
  have h1 := h 1 _ rfl
  rw [add_addS] at h0 h1
  exact ⟨a, _, ha, hx, h0, h1⟩
set_option maxHeartbeats 1000000 in
set_option maxRecDepth 100000 in
theorem sameBeeps_spec {Γ : Ctx} (hP : Γ.P = Try.prog) {L : Hp} {va vb : Value} {xs ys : List B2} (ha : SlS 2 c2 (Cell Γ L) va xs) (hb : SlS 2 c2 (Cell Γ L) vb ys) (hwx : Wf2 xs) (hwy : Wf2 ys) (hm : xs.length ≤ 140737488351232) :
    SCall Γ 10 #[va, vb] L (fun v L' => v = .bool (decide (xs = ys)) ∧ L' = L) := by
  obtain ⟨A, ca, rfl, hca', hA⟩ := ha
  obtain ⟨B, cb, rfl, hcb', hB⟩ := hb
  refine SCall.enter (n := 26) (res1 4) (hP ▸ Try.func10) rfl rfl (by simp) (res1_ok rfl) ?_
  refine SX.seq_k fun K1 hK1 => ?_
  refine SX.region ?_
  simp (maxSteps := 1000000) only [upd_app, Φa, Φb, Φc, ev, Φd, Φe, Φf, Φg, Φh, Φi, Φj, Φk, reduceIte, reduceCtorEq, if_true, if_false, Φl, Φm, Φn, Φo, true_and, and_true, false_and, and_false, true_implies, forall_const, false_implies, ne_eq, not_true_eq_false, not_false_eq_true, decide_true, decide_false, Φp, and_self, true_or, or_true, dite_true, dite_false, Φq, Φr, decide_eq_true_eq, decide_eq_false_iff_not, Φs, Φt, Φu, Φv, beq_self_eq_true, Φw, Φx, Φy, Φz, ΦA, eq_self, VCplan, less_refl_t, less_drop_t, VCops, VQops, guardVC, putVC, VC, VQ, ΦB, ΦC, ΦD, ΦE, ΦF, ΦG, ΦH, List.getElem?_cons_zero, List.getElem?_cons_succ, List.getElem?_nil, List.getElem?_toArray, ΦI, ΦJ, ΦK, ΦL, ΦM, ΦN, ΦO, ΦP, ΦQ, ΦR, ΦS, ΦT, ΦU, ΦV, ΦW, ΦX, ΦY, ΦZ, Ψa, Nat.reduceLT, Ψb, Ψc, Ψd, Ψe, Nat.add_zero, Nat.zero_add, Nat.mul_one, exists_eq_left, exists_eq_left', exists_const, existsSome, Nat.zero_le, Nat.le_refl, hP]
  refine hK1 _ _ ?_
  try clear hK1 K1
  refine SX.seq_k fun K2 hK2 => ?_
  refine SX.seq_k fun K3 hK3 => ?_
  refine SX.region ?_
  simp (maxSteps := 1000000) only [upd_app, Φa, Φb, Φc, ev, Φd, Φe, Φf, Φg, Φh, Φi, Φj, Φk, reduceIte, reduceCtorEq, if_true, if_false, Φl, Φm, Φn, Φo, true_and, and_true, false_and, and_false, true_implies, forall_const, false_implies, ne_eq, not_true_eq_false, not_false_eq_true, decide_true, decide_false, Φp, and_self, true_or, or_true, dite_true, dite_false, Φq, Φr, decide_eq_true_eq, decide_eq_false_iff_not, Φs, Φt, Φu, Φv, beq_self_eq_true, Φw, Φx, Φy, Φz, ΦA, eq_self, VCplan, less_refl_t, less_drop_t, VCops, VQops, guardVC, putVC, VC, VQ, ΦB, ΦC, ΦD, ΦE, ΦF, ΦG, ΦH, List.getElem?_cons_zero, List.getElem?_cons_succ, List.getElem?_nil, List.getElem?_toArray, ΦI, ΦJ, ΦK, ΦL, ΦM, ΦN, ΦO, ΦP, ΦQ, ΦR, ΦS, ΦT, ΦU, ΦV, ΦW, ΦX, ΦY, ΦZ, Ψa, Nat.reduceLT, Ψb, Ψc, Ψd, Ψe, Nat.add_zero, Nat.zero_add, Nat.mul_one, exists_eq_left, exists_eq_left', exists_const, existsSome, Nat.zero_le, Nat.le_refl, qcall_f, call_f, len_slice, len_str, cap_slice, min_int, max_int, T.elS_23, T.szA_23, T.zr_23, Try.underlying23, bin_neq, bin_neqb, bin_neqs, bin_neqa, T.szA_3, T.zr_3, Try.underlying3, hP]
  refine hK3 _ _ ?_
  try clear hK3 K3
  refine SX.cond_k fun X4 Y4 hX4 hY4 => ?_
  simp (maxSteps := 1000000) only [upd_app, Φa, Φb, Φc, ev, Φd, Φe, Φf, Φg, Φh, Φi, Φj, Φk, reduceIte, reduceCtorEq, if_true, if_false, Φl, Φm, Φn, Φo, true_and, and_true, false_and, and_false, true_implies, forall_const, false_implies, ne_eq, not_true_eq_false, not_false_eq_true, decide_true, decide_false, Φp, and_self, true_or, or_true, dite_true, dite_false, Φq, Φr, decide_eq_true_eq, decide_eq_false_iff_not, Φs, Φt, Φu, Φv, beq_self_eq_true, Φw, Φx, Φy, Φz, ΦA, eq_self, hP, condVC]
  refine ⟨fun hc10 => hX4 ?_, fun hc10 => hY4 ?_⟩
  · clear hX4 hY4 X4 Y4
    refine SX.seq_k fun K5 hK5 => ?_
    refine SX.region ?_
    simp (maxSteps := 1000000) only [upd_app, Φa, Φb, Φc, ev, Φd, Φe, Φf, Φg, Φh, Φi, Φj, Φk, reduceIte, reduceCtorEq, if_true, if_false, Φl, Φm, Φn, Φo, true_and, and_true, false_and, and_false, true_implies, forall_const, false_implies, ne_eq, not_true_eq_false, not_false_eq_true, decide_true, decide_false, Φp, and_self, true_or, or_true, dite_true, dite_false, Φq, Φr, decide_eq_true_eq, decide_eq_false_iff_not, Φs, Φt, Φu, Φv, beq_self_eq_true, Φw, Φx, Φy, Φz, ΦA, eq_self, VCplan, less_refl_t, less_drop_t, VCops, VQops, guardVC, putVC, VC, VQ, ΦB, ΦC, ΦD, ΦE, ΦF, ΦG, ΦH, List.getElem?_cons_zero, List.getElem?_cons_succ, List.getElem?_nil, List.getElem?_toArray, ΦI, ΦJ, ΦK, ΦL, ΦM, ΦN, ΦO, ΦP, ΦQ, ΦR, ΦS, ΦT, ΦU, ΦV, ΦW, ΦX, ΦY, ΦZ, Ψa, Nat.reduceLT, Ψb, Ψc, Ψd, Ψe, Nat.add_zero, Nat.zero_add, Nat.mul_one, exists_eq_left, exists_eq_left', exists_const, existsSome, Nat.zero_le, Nat.le_refl, hP]
    refine hK5 _ _ ?_
    try clear hK5 K5
    refine SX.ret ?_
    simp only [Φd, Φe, Φf, Φg, Φh, Φi, Φj, if_true, if_false, reduceIte, retQ_ret]
    try simp only [res0, res1, res2, res3, upd_app, Φa, Φb, Φc, ev, Φd, Φe, Φf, Φg, Φh, Φi, Φj, Φk, reduceIte, reduceCtorEq, if_true, if_false, Φl, Φm, Φn, Φo, true_and, and_true, false_and, and_false, true_implies, forall_const, false_implies, ne_eq, not_true_eq_false, not_false_eq_true, decide_true, decide_false, Φp, and_self, true_or, or_true, dite_true, dite_false, Φq, Φr, decide_eq_true_eq, decide_eq_false_iff_not, Φs, Φt, Φu, Φv, beq_self_eq_true, Φw, Φx, Φy, Φz, ΦA, eq_self, hP]
    exact ⟨_, _, Less.refl _, rfl, by rw [decide_eq_false (fun e => hc10 (by rw [e]))], rfl⟩
  · clear hX4 hY4 X4 Y4
    refine SX.skip ?_
    try simp only [Φd, Φe, Φf, Φg, Φh, Φi, Φj, if_true, if_false, reduceIte]
    refine hK2 _ _ ?_
    try clear hK2 K2
    refine SX.seq_k fun K6 hK6 => ?_
    refine SX.seq_k fun K7 hK7 => ?_
    refine SX.region ?_
    simp (maxSteps := 1000000) only [upd_app, Φa, Φb, Φc, ev, Φd, Φe, Φf, Φg, Φh, Φi, Φj, Φk, reduceIte, reduceCtorEq, if_true, if_false, Φl, Φm, Φn, Φo, true_and, and_true, false_and, and_false, true_implies, forall_const, false_implies, ne_eq, not_true_eq_false, not_false_eq_true, decide_true, decide_false, Φp, and_self, true_or, or_true, dite_true, dite_false, Φq, Φr, decide_eq_true_eq, decide_eq_false_iff_not, Φs, Φt, Φu, Φv, beq_self_eq_true, Φw, Φx, Φy, Φz, ΦA, eq_self, VCplan, less_refl_t, less_drop_t, VCops, VQops, guardVC, putVC, VC, VQ, ΦB, ΦC, ΦD, ΦE, ΦF, ΦG, ΦH, List.getElem?_cons_zero, List.getElem?_cons_succ, List.getElem?_nil, List.getElem?_toArray, ΦI, ΦJ, ΦK, ΦL, ΦM, ΦN, ΦO, ΦP, ΦQ, ΦR, ΦS, ΦT, ΦU, ΦV, ΦW, ΦX, ΦY, ΦZ, Ψa, Nat.reduceLT, Ψb, Ψc, Ψd, Ψe, Nat.add_zero, Nat.zero_add, Nat.mul_one, exists_eq_left, exists_eq_left', exists_const, existsSome, Nat.zero_le, Nat.le_refl, hP]
    refine hK7 _ _ ?_
    try clear hK7 K7
    refine SX.block ?_
    refine SX.live [0, 1, 5] (fun T1 hT1 => ?_)
    simp only [forall_mem_cons', forall_mem_nil', upd_app, Φa, Φb, Φc, ev, Φd, Φe, Φf, Φg, Φh, Φi, Φj, Φk, reduceIte, reduceCtorEq, if_true, if_false, Φl, Φm, Φn, Φo, true_and, and_true, false_and, and_false, true_implies, forall_const, false_implies, ne_eq, not_true_eq_false, not_false_eq_true, decide_true, decide_false, Φp, and_self, true_or, or_true, dite_true, dite_false, Φq, Φr, decide_eq_true_eq, decide_eq_false_iff_not, Φs, Φt, Φu, Φv, beq_self_eq_true, Φw, Φx, Φy, Φz, ΦA, eq_self, hP] at hT1
    obtain ⟨h1_0, h1_1, h1_5⟩ := hT1
    refine SX.loop_k (fun (ss : (Nat)) T L' => (fun (k : Nat) => T 5 = .int .i64 (k : Int) ∧ T 0 = T1 0 ∧ T 1 = T1 1 ∧ L' = L ∧ (k ≤ xs.length ∧ ∀ j, j < k → xs[j]? = ys[j]?)) (ss)) (fun (ss : (Nat)) => (fun (k : Nat) => xs.length - k) (ss)) 0 ?_ ?_
    · try dsimp only
      refine ⟨?_, ?_, ?_, ?_, ?_⟩
      · first | exact h1_5 | (rw [h1_5]; rfl) | (rw [h1_5]; simp; done)
      · rfl
      · rfl
      · rfl
      · exact ⟨Nat.zero_le _, fun j hj => absurd hj (Nat.not_lt_zero _)⟩
    · intro k T2 L2 hI K8 hK8
      try dsimp only at hI hK8
      simp only [h1_0, h1_1] at hI hK8
      obtain ⟨h2_5, h2_0, h2_1, hL2, hk, hsame⟩ := hI
      replace hL2 := hL2.symm
      subst hL2
      clear h1_0 h1_1 h1_5 T1
      refine SX.seq_k fun K9 hK9 => ?_
      refine SX.seq_k fun K10 hK10 => ?_
      refine SX.region ?_
      simp (maxSteps := 1000000) only [upd_app, Φa, Φb, Φc, ev, Φd, Φe, Φf, Φg, Φh, Φi, Φj, Φk, reduceIte, reduceCtorEq, if_true, if_false, Φl, Φm, Φn, Φo, true_and, and_true, false_and, and_false, true_implies, forall_const, false_implies, ne_eq, not_true_eq_false, not_false_eq_true, decide_true, decide_false, Φp, and_self, true_or, or_true, dite_true, dite_false, Φq, Φr, decide_eq_true_eq, decide_eq_false_iff_not, Φs, Φt, Φu, Φv, beq_self_eq_true, Φw, Φx, Φy, Φz, ΦA, eq_self, VCplan, less_refl_t, less_drop_t, VCops, VQops, guardVC, putVC, VC, VQ, ΦB, ΦC, ΦD, ΦE, ΦF, ΦG, ΦH, List.getElem?_cons_zero, List.getElem?_cons_succ, List.getElem?_nil, List.getElem?_toArray, ΦI, ΦJ, ΦK, ΦL, ΦM, ΦN, ΦO, ΦP, ΦQ, ΦR, ΦS, ΦT, ΦU, ΦV, ΦW, ΦX, ΦY, ΦZ, Ψa, Nat.reduceLT, Ψb, Ψc, Ψd, Ψe, Nat.add_zero, Nat.zero_add, Nat.mul_one, exists_eq_left, exists_eq_left', exists_const, existsSome, Nat.zero_le, Nat.le_refl, qcall_f, call_f, len_slice, len_str, cap_slice, min_int, max_int, T.elS_23, T.szA_23, T.zr_23, Try.underlying23, bin_lss, hP, h2_5, h2_0, h2_1]
      refine hK10 _ _ ?_
      try clear hK10 K10
      refine SX.cond_k fun X11 Y11 hX11 hY11 => ?_
      simp (maxSteps := 1000000) only [upd_app, Φa, Φb, Φc, ev, Φd, Φe, Φf, Φg, Φh, Φi, Φj, Φk, reduceIte, reduceCtorEq, if_true, if_false, Φl, Φm, Φn, Φo, true_and, and_true, false_and, and_false, true_implies, forall_const, false_implies, ne_eq, not_true_eq_false, not_false_eq_true, decide_true, decide_false, Φp, and_self, true_or, or_true, dite_true, dite_false, Φq, Φr, decide_eq_true_eq, decide_eq_false_iff_not, Φs, Φt, Φu, Φv, beq_self_eq_true, Φw, Φx, Φy, Φz, ΦA, eq_self, hP, h2_5, h2_0, h2_1, condVC]
      refine ⟨fun hc14 => hX11 ?_, fun hc14 => hY11 ?_⟩
      · clear hX11 hY11 X11 Y11
        refine SX.skip ?_
        try simp only [Φd, Φe, Φf, Φg, Φh, Φi, Φj, if_true, if_false, reduceIte]
        refine hK9 _ _ ?_
        try clear hK9 K9
        refine SX.seq_k fun K12 hK12 => ?_
        refine SX.block ?_
        refine SX.seq_k fun K13 hK13 => ?_
        refine SX.quiet_x (hP ▸ T.mixed) (by kernel_rfl) ?_
        obtain ⟨a, x, ha, hx, hca, hca2⟩ := at2 hA (show k < xs.length by omega)
        obtain ⟨b, y, hb, hy, hcb, hcb2⟩ := at2 hB (show k < ys.length by omega)
        have wx := hwx x (List.mem_of_getElem? hx)
        have wy := hwy y (List.mem_of_getElem? hy)
        refine QX.cut_k 8 fun K14 hK14 => ?_
        simp (maxSteps := 1000000) only [upd_app, Φa, Φb, Φc, ev, Φd, Φe, Φf, Φg, Φh, Φi, Φj, Φk, reduceIte, reduceCtorEq, if_true, if_false, Φl, Φm, Φn, Φo, true_and, and_true, false_and, and_false, true_implies, forall_const, false_implies, ne_eq, not_true_eq_false, not_false_eq_true, decide_true, decide_false, Φp, and_self, true_or, or_true, dite_true, dite_false, Φq, Φr, decide_eq_true_eq, decide_eq_false_iff_not, Φs, Φt, Φu, Φv, beq_self_eq_true, Φw, Φx, Φy, Φz, ΦA, eq_self, VCplan, less_refl_t, less_drop_t, VCops, VQops, guardVC, putVC, VC, VQ, ΦB, ΦC, ΦD, ΦE, ΦF, ΦG, ΦH, List.getElem?_cons_zero, List.getElem?_cons_succ, List.getElem?_nil, List.getElem?_toArray, ΦI, ΦJ, ΦK, ΦL, ΦM, ΦN, ΦO, ΦP, ΦQ, ΦR, ΦS, ΦT, ΦU, ΦV, ΦW, ΦX, ΦY, ΦZ, Ψa, Nat.reduceLT, Ψb, Ψc, Ψd, Ψe, Nat.add_zero, Nat.zero_add, Nat.mul_one, exists_eq_left, exists_eq_left', exists_const, existsSome, Nat.zero_le, Nat.le_refl, ia_slice, ia_arr, Addr.add_lit, Addr.add_zero', add_addS, Int.toNat_natCast, Int.toNat_zero, Int.toNat_one, Int.reduceToNat, T.elS_23, T.szA_23, T.zr_23, Try.underlying23, ld_ptr, loadVC, loadN, T.elA_27, T.lay_27, T.szA_27, T.zr_27, Try.underlying27, hP, h2_5, h2_0, h2_1]
        refine ⟨⟨by omega, by omega⟩, a, ha, _, hca, _, hca2, ⟨by omega, by omega⟩, b, hb, _, hcb, _, hcb2, ?_⟩
        try simp (maxSteps := 1000000) only [upd_app, Φa, Φb, Φc, ev, Φd, Φe, Φf, Φg, Φh, Φi, Φj, Φk, reduceIte, reduceCtorEq, if_true, if_false, Φl, Φm, Φn, Φo, true_and, and_true, false_and, and_false, true_implies, forall_const, false_implies, ne_eq, not_true_eq_false, not_false_eq_true, decide_true, decide_false, Φp, and_self, true_or, or_true, dite_true, dite_false, Φq, Φr, decide_eq_true_eq, decide_eq_false_iff_not, Φs, Φt, Φu, Φv, beq_self_eq_true, Φw, Φx, Φy, Φz, ΦA, eq_self, VCplan, less_refl_t, less_drop_t, VCops, VQops, guardVC, putVC, VC, VQ, ΦB, ΦC, ΦD, ΦE, ΦF, ΦG, ΦH, List.getElem?_cons_zero, List.getElem?_cons_succ, List.getElem?_nil, List.getElem?_toArray, ΦI, ΦJ, ΦK, ΦL, ΦM, ΦN, ΦO, ΦP, ΦQ, ΦR, ΦS, ΦT, ΦU, ΦV, ΦW, ΦX, ΦY, ΦZ, Ψa, Nat.reduceLT, Ψb, Ψc, Ψd, Ψe, Nat.add_zero, Nat.zero_add, Nat.mul_one, exists_eq_left, exists_eq_left', exists_const, existsSome, Nat.zero_le, Nat.le_refl, ia_slice, ia_arr, Addr.add_lit, Addr.add_zero', add_addS, Int.toNat_natCast, Int.toNat_zero, Int.toNat_one, Int.reduceToNat, T.elS_23, T.szA_23, T.zr_23, Try.underlying23, ld_ptr, loadVC, loadN, T.elA_27, T.lay_27, T.szA_27, T.zr_27, Try.underlying27, hP, h2_5, h2_0, h2_1]
        refine hK14 _ _ ?_
        try clear hK14 K14
        refine QX.live [0, 1, 5, 20, 24] (fun T3 hT3 => ?_)
        simp only [forall_mem_cons', forall_mem_nil', upd_app, Φa, Φb, Φc, ev, Φd, Φe, Φf, Φg, Φh, Φi, Φj, Φk, reduceIte, reduceCtorEq, if_true, if_false, Φl, Φm, Φn, Φo, true_and, and_true, false_and, and_false, true_implies, forall_const, false_implies, ne_eq, not_true_eq_false, not_false_eq_true, decide_true, decide_false, Φp, and_self, true_or, or_true, dite_true, dite_false, Φq, Φr, decide_eq_true_eq, decide_eq_false_iff_not, Φs, Φt, Φu, Φv, beq_self_eq_true, Φw, Φx, Φy, Φz, ΦA, eq_self, hP, h2_5, h2_0, h2_1] at hT3
        obtain ⟨h3_0, h3_1, h3_5, h3_20, h3_24⟩ := hT3
        clear h2_5 h2_0 h2_1 T2
        refine QX.done ?_
        simp (maxSteps := 1000000) only [upd_app, Φa, Φb, Φc, ev, Φd, Φe, Φf, Φg, Φh, Φi, Φj, Φk, reduceIte, reduceCtorEq, if_true, if_false, Φl, Φm, Φn, Φo, true_and, and_true, false_and, and_false, true_implies, forall_const, false_implies, ne_eq, not_true_eq_false, not_false_eq_true, decide_true, decide_false, Φp, and_self, true_or, or_true, dite_true, dite_false, Φq, Φr, decide_eq_true_eq, decide_eq_false_iff_not, Φs, Φt, Φu, Φv, beq_self_eq_true, Φw, Φx, Φy, Φz, ΦA, eq_self, VCplan, less_refl_t, less_drop_t, VCops, VQops, guardVC, putVC, VC, VQ, ΦB, ΦC, ΦD, ΦE, ΦF, ΦG, ΦH, List.getElem?_cons_zero, List.getElem?_cons_succ, List.getElem?_nil, List.getElem?_toArray, ΦI, ΦJ, ΦK, ΦL, ΦM, ΦN, ΦO, ΦP, ΦQ, ΦR, ΦS, ΦT, ΦU, ΦV, ΦW, ΦX, ΦY, ΦZ, Ψa, Nat.reduceLT, Ψb, Ψc, Ψd, Ψe, Nat.add_zero, Nat.zero_add, Nat.mul_one, exists_eq_left, exists_eq_left', exists_const, existsSome, Nat.zero_le, Nat.le_refl, bin_neq, bin_neqb, bin_neqs, bin_neqa, T.elA_27, T.lay_27, T.szA_27, T.zr_27, Try.underlying27, hP, h3_0, h3_1, h3_5, h3_20, h3_24]
        refine aggEq_of eqT_27 (by simp only [okVs, okV, wf_i64, wf_u8, wf_u16, Bool.and_eq_true, decide_eq_true_eq, decide_true, true_and, and_true, Φw, Φx, and_self]; try omega) (by simp only [okVs, okV, wf_i64, wf_u8, wf_u16, Bool.and_eq_true, decide_eq_true_eq, decide_true, true_and, and_true, Φw, Φx, and_self]; try omega) (fun r hr => ?_)
        simp only [litV, ΦI, ΦJ, List.cons.injEq, Lit.int.injEq, Lit.bool.injEq, Lit.string.injEq, true_and, and_true, and_self, iff_true, eq_self] at hr
        try simp (maxSteps := 1000000) only [upd_app, Φa, Φb, Φc, ev, Φd, Φe, Φf, Φg, Φh, Φi, Φj, Φk, reduceIte, reduceCtorEq, if_true, if_false, Φl, Φm, Φn, Φo, true_and, and_true, false_and, and_false, true_implies, forall_const, false_implies, ne_eq, not_true_eq_false, not_false_eq_true, decide_true, decide_false, Φp, and_self, true_or, or_true, dite_true, dite_false, Φq, Φr, decide_eq_true_eq, decide_eq_false_iff_not, Φs, Φt, Φu, Φv, beq_self_eq_true, Φw, Φx, Φy, Φz, ΦA, eq_self, VCplan, less_refl_t, less_drop_t, VCops, VQops, guardVC, putVC, VC, VQ, ΦB, ΦC, ΦD, ΦE, ΦF, ΦG, ΦH, List.getElem?_cons_zero, List.getElem?_cons_succ, List.getElem?_nil, List.getElem?_toArray, ΦI, ΦJ, ΦK, ΦL, ΦM, ΦN, ΦO, ΦP, ΦQ, ΦR, ΦS, ΦT, ΦU, ΦV, ΦW, ΦX, ΦY, ΦZ, Ψa, Nat.reduceLT, Ψb, Ψc, Ψd, Ψe, Nat.add_zero, Nat.zero_add, Nat.mul_one, exists_eq_left, exists_eq_left', exists_const, existsSome, Nat.zero_le, Nat.le_refl, bin_neq, bin_neqb, bin_neqs, bin_neqa, T.elA_27, T.lay_27, T.szA_27, T.zr_27, Try.underlying27, hP, h3_0, h3_1, h3_5, h3_20, h3_24]
        refine hK13 _ _ ?_
        try clear hK13 K13
        refine SX.cond_k fun X15 Y15 hX15 hY15 => ?_
        simp (maxSteps := 1000000) only [upd_app, Φa, Φb, Φc, ev, Φd, Φe, Φf, Φg, Φh, Φi, Φj, Φk, reduceIte, reduceCtorEq, if_true, if_false, Φl, Φm, Φn, Φo, true_and, and_true, false_and, and_false, true_implies, forall_const, false_implies, ne_eq, not_true_eq_false, not_false_eq_true, decide_true, decide_false, Φp, and_self, true_or, or_true, dite_true, dite_false, Φq, Φr, decide_eq_true_eq, decide_eq_false_iff_not, Φs, Φt, Φu, Φv, beq_self_eq_true, Φw, Φx, Φy, Φz, ΦA, eq_self, hP, h3_0, h3_1, h3_5, h3_20, h3_24, condVC]
        refine ⟨fun hc25 => hX15 ?_, fun hc25 => hY15 ?_⟩
        · clear hX15 hY15 X15 Y15
          refine SX.seq_k fun K16 hK16 => ?_
          refine SX.region ?_
          simp (maxSteps := 1000000) only [upd_app, Φa, Φb, Φc, ev, Φd, Φe, Φf, Φg, Φh, Φi, Φj, Φk, reduceIte, reduceCtorEq, if_true, if_false, Φl, Φm, Φn, Φo, true_and, and_true, false_and, and_false, true_implies, forall_const, false_implies, ne_eq, not_true_eq_false, not_false_eq_true, decide_true, decide_false, Φp, and_self, true_or, or_true, dite_true, dite_false, Φq, Φr, decide_eq_true_eq, decide_eq_false_iff_not, Φs, Φt, Φu, Φv, beq_self_eq_true, Φw, Φx, Φy, Φz, ΦA, eq_self, VCplan, less_refl_t, less_drop_t, VCops, VQops, guardVC, putVC, VC, VQ, ΦB, ΦC, ΦD, ΦE, ΦF, ΦG, ΦH, List.getElem?_cons_zero, List.getElem?_cons_succ, List.getElem?_nil, List.getElem?_toArray, ΦI, ΦJ, ΦK, ΦL, ΦM, ΦN, ΦO, ΦP, ΦQ, ΦR, ΦS, ΦT, ΦU, ΦV, ΦW, ΦX, ΦY, ΦZ, Ψa, Nat.reduceLT, Ψb, Ψc, Ψd, Ψe, Nat.add_zero, Nat.zero_add, Nat.mul_one, exists_eq_left, exists_eq_left', exists_const, existsSome, Nat.zero_le, Nat.le_refl, hP, h3_0, h3_1, h3_5, h3_20, h3_24]
          refine hK16 _ _ ?_
          try clear hK16 K16
          refine SX.ret ?_
          simp only [Φd, Φe, Φf, Φg, Φh, Φi, Φj, if_true, if_false, reduceIte, retQ_ret]
          try simp only [res0, res1, res2, res3, upd_app, Φa, Φb, Φc, ev, Φd, Φe, Φf, Φg, Φh, Φi, Φj, Φk, reduceIte, reduceCtorEq, if_true, if_false, Φl, Φm, Φn, Φo, true_and, and_true, false_and, and_false, true_implies, forall_const, false_implies, ne_eq, not_true_eq_false, not_false_eq_true, decide_true, decide_false, Φp, and_self, true_or, or_true, dite_true, dite_false, Φq, Φr, decide_eq_true_eq, decide_eq_false_iff_not, Φs, Φt, Φu, Φv, beq_self_eq_true, Φw, Φx, Φy, Φz, ΦA, eq_self, hP, h3_0, h3_1, h3_5, h3_20, h3_24]
          refine ⟨_, _, Less.refl _, rfl, ?_, rfl⟩
          rw [decide_eq_false (fun e => ?_)]
          subst e
          rw [hx] at hy
          cases hy
          have := hr.2 ⟨rfl, rfl⟩
          rw [this] at hc25
          cases hc25
        · clear hX15 hY15 X15 Y15
          refine SX.skip ?_
          try simp only [Φd, Φe, Φf, Φg, Φh, Φi, Φj, if_true, if_false, reduceIte]
          refine hK12 _ _ ?_
          try clear hK12 K12
          refine SX.region ?_
          simp (maxSteps := 1000000) only [upd_app, Φa, Φb, Φc, ev, Φd, Φe, Φf, Φg, Φh, Φi, Φj, Φk, reduceIte, reduceCtorEq, if_true, if_false, Φl, Φm, Φn, Φo, true_and, and_true, false_and, and_false, true_implies, forall_const, false_implies, ne_eq, not_true_eq_false, not_false_eq_true, decide_true, decide_false, Φp, and_self, true_or, or_true, dite_true, dite_false, Φq, Φr, decide_eq_true_eq, decide_eq_false_iff_not, Φs, Φt, Φu, Φv, beq_self_eq_true, Φw, Φx, Φy, Φz, ΦA, eq_self, VCplan, less_refl_t, less_drop_t, VCops, VQops, guardVC, putVC, VC, VQ, ΦB, ΦC, ΦD, ΦE, ΦF, ΦG, ΦH, List.getElem?_cons_zero, List.getElem?_cons_succ, List.getElem?_nil, List.getElem?_toArray, ΦI, ΦJ, ΦK, ΦL, ΦM, ΦN, ΦO, ΦP, ΦQ, ΦR, ΦS, ΦT, ΦU, ΦV, ΦW, ΦX, ΦY, ΦZ, Ψa, Nat.reduceLT, Ψb, Ψc, Ψd, Ψe, Nat.add_zero, Nat.zero_add, Nat.mul_one, exists_eq_left, exists_eq_left', exists_const, existsSome, Nat.zero_le, Nat.le_refl, bin_add, bin_adds, hP, h3_0, h3_1, h3_5, h3_20, h3_24]
          refine hK8 (k + 1) _ (L) _ (by first | exact Less.refl _ | exact Less.drop _ _ | exact Less.drops (Less.drop _ _) | exact Less.drops (Less.drops (Less.drop _ _)) | exact Less.drops (Less.drops (Less.drops (Less.drop _ _))) | exact Less.drops (Less.drops (Less.drops (Less.drops (Less.drop _ _))))) ?_ ?_
          · try dsimp only
            refine ⟨?_, ?_, ?_, ?_, ?_⟩
            · simp (maxSteps := 1000000) only [upd_app, Φa, Φb, Φc, ev, Φd, Φe, Φf, Φg, Φh, Φi, Φj, Φk, reduceIte, reduceCtorEq, if_true, if_false, Φl, Φm, Φn, Φo, true_and, and_true, false_and, and_false, true_implies, forall_const, false_implies, ne_eq, not_true_eq_false, not_false_eq_true, decide_true, decide_false, Φp, and_self, true_or, or_true, dite_true, dite_false, Φq, Φr, decide_eq_true_eq, decide_eq_false_iff_not, Φs, Φt, Φu, Φv, beq_self_eq_true, Φw, Φx, Φy, Φz, ΦA, eq_self, hP, h3_0, h3_1, h3_5, h3_20, h3_24]
              rw [inc64 (by omega)]
            · simp (maxSteps := 1000000) only [upd_app, Φa, Φb, Φc, ev, Φd, Φe, Φf, Φg, Φh, Φi, Φj, Φk, reduceIte, reduceCtorEq, if_true, if_false, Φl, Φm, Φn, Φo, true_and, and_true, false_and, and_false, true_implies, forall_const, false_implies, ne_eq, not_true_eq_false, not_false_eq_true, decide_true, decide_false, Φp, and_self, true_or, or_true, dite_true, dite_false, Φq, Φr, decide_eq_true_eq, decide_eq_false_iff_not, Φs, Φt, Φu, Φv, beq_self_eq_true, Φw, Φx, Φy, Φz, ΦA, eq_self, hP, h3_0, h3_1, h3_5, h3_20, h3_24]
            · simp (maxSteps := 1000000) only [upd_app, Φa, Φb, Φc, ev, Φd, Φe, Φf, Φg, Φh, Φi, Φj, Φk, reduceIte, reduceCtorEq, if_true, if_false, Φl, Φm, Φn, Φo, true_and, and_true, false_and, and_false, true_implies, forall_const, false_implies, ne_eq, not_true_eq_false, not_false_eq_true, decide_true, decide_false, Φp, and_self, true_or, or_true, dite_true, dite_false, Φq, Φr, decide_eq_true_eq, decide_eq_false_iff_not, Φs, Φt, Φu, Φv, beq_self_eq_true, Φw, Φx, Φy, Φz, ΦA, eq_self, hP, h3_0, h3_1, h3_5, h3_20, h3_24]
            · rfl
            · refine ⟨by omega, fun j hj => ?_⟩
              rcases Nat.lt_succ_iff_lt_or_eq.1 hj with h | rfl
              · exact hsame j h
              · rw [hx, hy]
                obtain ⟨e1, e2⟩ := hr.1 (by simpa using hc25)
                rw [show x = y from Prod.ext e1 e2]
          · (try dsimp only); omega
      · clear hX11 hY11 X11 Y11
        refine SX.exit ?_
        try simp only [Φd, Φe, Φf, Φg, Φh, Φi, Φj, if_true, if_false, reduceIte]
        refine hK6 _ _ ?_
        try clear hK6 K6
        refine SX.seq_k fun K17 hK17 => ?_
        refine SX.region ?_
        simp (maxSteps := 1000000) only [upd_app, Φa, Φb, Φc, ev, Φd, Φe, Φf, Φg, Φh, Φi, Φj, Φk, reduceIte, reduceCtorEq, if_true, if_false, Φl, Φm, Φn, Φo, true_and, and_true, false_and, and_false, true_implies, forall_const, false_implies, ne_eq, not_true_eq_false, not_false_eq_true, decide_true, decide_false, Φp, and_self, true_or, or_true, dite_true, dite_false, Φq, Φr, decide_eq_true_eq, decide_eq_false_iff_not, Φs, Φt, Φu, Φv, beq_self_eq_true, Φw, Φx, Φy, Φz, ΦA, eq_self, VCplan, less_refl_t, less_drop_t, VCops, VQops, guardVC, putVC, VC, VQ, ΦB, ΦC, ΦD, ΦE, ΦF, ΦG, ΦH, List.getElem?_cons_zero, List.getElem?_cons_succ, List.getElem?_nil, List.getElem?_toArray, ΦI, ΦJ, ΦK, ΦL, ΦM, ΦN, ΦO, ΦP, ΦQ, ΦR, ΦS, ΦT, ΦU, ΦV, ΦW, ΦX, ΦY, ΦZ, Ψa, Nat.reduceLT, Ψb, Ψc, Ψd, Ψe, Nat.add_zero, Nat.zero_add, Nat.mul_one, exists_eq_left, exists_eq_left', exists_const, existsSome, Nat.zero_le, Nat.le_refl, hP, h2_5, h2_0, h2_1]
        refine hK17 _ _ ?_
        try clear hK17 K17
        refine SX.ret ?_
        simp only [Φd, Φe, Φf, Φg, Φh, Φi, Φj, if_true, if_false, reduceIte, retQ_ret]
        try simp only [res0, res1, res2, res3, upd_app, Φa, Φb, Φc, ev, Φd, Φe, Φf, Φg, Φh, Φi, Φj, Φk, reduceIte, reduceCtorEq, if_true, if_false, Φl, Φm, Φn, Φo, true_and, and_true, false_and, and_false, true_implies, forall_const, false_implies, ne_eq, not_true_eq_false, not_false_eq_true, decide_true, decide_false, Φp, and_self, true_or, or_true, dite_true, dite_false, Φq, Φr, decide_eq_true_eq, decide_eq_false_iff_not, Φs, Φt, Φu, Φv, beq_self_eq_true, Φw, Φx, Φy, Φz, ΦA, eq_self, hP, h2_5, h2_0, h2_1]
        exact ⟨_, _, Less.refl _, rfl, by rw [decide_eq_true (list_eq_of hc10 (fun j hj => hsame j (by omega)))], rfl⟩
set_option maxHeartbeats 1000000 in
set_option maxRecDepth 100000 in
theorem sameWaves_spec {Γ : Ctx} (hP : Γ.P = Try.prog) {L : Hp} {va vb : Value} {xs ys : List B2} (ha : SlS 2 c2 (Cell Γ L) va xs) (hb : SlS 2 c2 (Cell Γ L) vb ys) (hwx : Wf2 xs) (hwy : Wf2 ys) (hm : xs.length ≤ 140737488351232) :
    SCall Γ 14 #[va, vb] L (fun v L' => v = .bool (decide (xs = ys)) ∧ L' = L) := by
  obtain ⟨A, ca, rfl, hca', hA⟩ := ha
  obtain ⟨B, cb, rfl, hcb', hB⟩ := hb
  refine SCall.enter (n := 26) (res1 4) (hP ▸ Try.func14) rfl rfl (by simp) (res1_ok rfl) ?_
  refine SX.seq_k fun K1 hK1 => ?_
  refine SX.region ?_
  simp (maxSteps := 1000000) only [upd_app, Φa, Φb, Φc, ev, Φd, Φe, Φf, Φg, Φh, Φi, Φj, Φk, reduceIte, reduceCtorEq, if_true, if_false, Φl, Φm, Φn, Φo, true_and, and_true, false_and, and_false, true_implies, forall_const, false_implies, ne_eq, not_true_eq_false, not_false_eq_true, decide_true, decide_false, Φp, and_self, true_or, or_true, dite_true, dite_false, Φq, Φr, decide_eq_true_eq, decide_eq_false_iff_not, Φs, Φt, Φu, Φv, beq_self_eq_true, Φw, Φx, Φy, Φz, ΦA, eq_self, VCplan, less_refl_t, less_drop_t, VCops, VQops, guardVC, putVC, VC, VQ, ΦB, ΦC, ΦD, ΦE, ΦF, ΦG, ΦH, List.getElem?_cons_zero, List.getElem?_cons_succ, List.getElem?_nil, List.getElem?_toArray, ΦI, ΦJ, ΦK, ΦL, ΦM, ΦN, ΦO, ΦP, ΦQ, ΦR, ΦS, ΦT, ΦU, ΦV, ΦW, ΦX, ΦY, ΦZ, Ψa, Nat.reduceLT, Ψb, Ψc, Ψd, Ψe, Nat.add_zero, Nat.zero_add, Nat.mul_one, exists_eq_left, exists_eq_left', exists_const, existsSome, Nat.zero_le, Nat.le_refl, hP]
  refine hK1 _ _ ?_
  try clear hK1 K1
  refine SX.seq_k fun K2 hK2 => ?_
  refine SX.seq_k fun K3 hK3 => ?_
  refine SX.region ?_
  simp (maxSteps := 1000000) only [upd_app, Φa, Φb, Φc, ev, Φd, Φe, Φf, Φg, Φh, Φi, Φj, Φk, reduceIte, reduceCtorEq, if_true, if_false, Φl, Φm, Φn, Φo, true_and, and_true, false_and, and_false, true_implies, forall_const, false_implies, ne_eq, not_true_eq_false, not_false_eq_true, decide_true, decide_false, Φp, and_self, true_or, or_true, dite_true, dite_false, Φq, Φr, decide_eq_true_eq, decide_eq_false_iff_not, Φs, Φt, Φu, Φv, beq_self_eq_true, Φw, Φx, Φy, Φz, ΦA, eq_self, VCplan, less_refl_t, less_drop_t, VCops, VQops, guardVC, putVC, VC, VQ, ΦB, ΦC, ΦD, ΦE, ΦF, ΦG, ΦH, List.getElem?_cons_zero, List.getElem?_cons_succ, List.getElem?_nil, List.getElem?_toArray, ΦI, ΦJ, ΦK, ΦL, ΦM, ΦN, ΦO, ΦP, ΦQ, ΦR, ΦS, ΦT, ΦU, ΦV, ΦW, ΦX, ΦY, ΦZ, Ψa, Nat.reduceLT, Ψb, Ψc, Ψd, Ψe, Nat.add_zero, Nat.zero_add, Nat.mul_one, exists_eq_left, exists_eq_left', exists_const, existsSome, Nat.zero_le, Nat.le_refl, qcall_f, call_f, len_slice, len_str, cap_slice, min_int, max_int, T.elS_30, T.szA_30, T.zr_30, Try.underlying30, bin_neq, bin_neqb, bin_neqs, bin_neqa, T.szA_3, T.zr_3, Try.underlying3, hP]
  refine hK3 _ _ ?_
  try clear hK3 K3
  refine SX.cond_k fun X4 Y4 hX4 hY4 => ?_
  simp (maxSteps := 1000000) only [upd_app, Φa, Φb, Φc, ev, Φd, Φe, Φf, Φg, Φh, Φi, Φj, Φk, reduceIte, reduceCtorEq, if_true, if_false, Φl, Φm, Φn, Φo, true_and, and_true, false_and, and_false, true_implies, forall_const, false_implies, ne_eq, not_true_eq_false, not_false_eq_true, decide_true, decide_false, Φp, and_self, true_or, or_true, dite_true, dite_false, Φq, Φr, decide_eq_true_eq, decide_eq_false_iff_not, Φs, Φt, Φu, Φv, beq_self_eq_true, Φw, Φx, Φy, Φz, ΦA, eq_self, hP, condVC]
  refine ⟨fun hc10 => hX4 ?_, fun hc10 => hY4 ?_⟩
  · clear hX4 hY4 X4 Y4
    refine SX.seq_k fun K5 hK5 => ?_
    refine SX.region ?_
    simp (maxSteps := 1000000) only [upd_app, Φa, Φb, Φc, ev, Φd, Φe, Φf, Φg, Φh, Φi, Φj, Φk, reduceIte, reduceCtorEq, if_true, if_false, Φl, Φm, Φn, Φo, true_and, and_true, false_and, and_false, true_implies, forall_const, false_implies, ne_eq, not_true_eq_false, not_false_eq_true, decide_true, decide_false, Φp, and_self, true_or, or_true, dite_true, dite_false, Φq, Φr, decide_eq_true_eq, decide_eq_false_iff_not, Φs, Φt, Φu, Φv, beq_self_eq_true, Φw, Φx, Φy, Φz, ΦA, eq_self, VCplan, less_refl_t, less_drop_t, VCops, VQops, guardVC, putVC, VC, VQ, ΦB, ΦC, ΦD, ΦE, ΦF, ΦG, ΦH, List.getElem?_cons_zero, List.getElem?_cons_succ, List.getElem?_nil, List.getElem?_toArray, ΦI, ΦJ, ΦK, ΦL, ΦM, ΦN, ΦO, ΦP, ΦQ, ΦR, ΦS, ΦT, ΦU, ΦV, ΦW, ΦX, ΦY, ΦZ, Ψa, Nat.reduceLT, Ψb, Ψc, Ψd, Ψe, Nat.add_zero, Nat.zero_add, Nat.mul_one, exists_eq_left, exists_eq_left', exists_const, existsSome, Nat.zero_le, Nat.le_refl, hP]
    refine hK5 _ _ ?_
    try clear hK5 K5
    refine SX.ret ?_
    simp only [Φd, Φe, Φf, Φg, Φh, Φi, Φj, if_true, if_false, reduceIte, retQ_ret]
    try simp only [res0, res1, res2, res3, upd_app, Φa, Φb, Φc, ev, Φd, Φe, Φf, Φg, Φh, Φi, Φj, Φk, reduceIte, reduceCtorEq, if_true, if_false, Φl, Φm, Φn, Φo, true_and, and_true, false_and, and_false, true_implies, forall_const, false_implies, ne_eq, not_true_eq_false, not_false_eq_true, decide_true, decide_false, Φp, and_self, true_or, or_true, dite_true, dite_false, Φq, Φr, decide_eq_true_eq, decide_eq_false_iff_not, Φs, Φt, Φu, Φv, beq_self_eq_true, Φw, Φx, Φy, Φz, ΦA, eq_self, hP]
    exact ⟨_, _, Less.refl _, rfl, by rw [decide_eq_false (fun e => hc10 (by rw [e]))], rfl⟩
  · clear hX4 hY4 X4 Y4
    refine SX.skip ?_
    try simp only [Φd, Φe, Φf, Φg, Φh, Φi, Φj, if_true, if_false, reduceIte]
    refine hK2 _ _ ?_
    try clear hK2 K2
    refine SX.seq_k fun K6 hK6 => ?_
    refine SX.seq_k fun K7 hK7 => ?_
    refine SX.region ?_
    simp (maxSteps := 1000000) only [upd_app, Φa, Φb, Φc, ev, Φd, Φe, Φf, Φg, Φh, Φi, Φj, Φk, reduceIte, reduceCtorEq, if_true, if_false, Φl, Φm, Φn, Φo, true_and, and_true, false_and, and_false, true_implies, forall_const, false_implies, ne_eq, not_true_eq_false, not_false_eq_true, decide_true, decide_false, Φp, and_self, true_or, or_true, dite_true, dite_false, Φq, Φr, decide_eq_true_eq, decide_eq_false_iff_not, Φs, Φt, Φu, Φv, beq_self_eq_true, Φw, Φx, Φy, Φz, ΦA, eq_self, VCplan, less_refl_t, less_drop_t, VCops, VQops, guardVC, putVC, VC, VQ, ΦB, ΦC, ΦD, ΦE, ΦF, ΦG, ΦH, List.getElem?_cons_zero, List.getElem?_cons_succ, List.getElem?_nil, List.getElem?_toArray, ΦI, ΦJ, ΦK, ΦL, ΦM, ΦN, ΦO, ΦP, ΦQ, ΦR, ΦS, ΦT, ΦU, ΦV, ΦW, ΦX, ΦY, ΦZ, Ψa, Nat.reduceLT, Ψb, Ψc, Ψd, Ψe, Nat.add_zero, Nat.zero_add, Nat.mul_one, exists_eq_left, exists_eq_left', exists_const, existsSome, Nat.zero_le, Nat.le_refl, hP]
    refine hK7 _ _ ?_
    try clear hK7 K7
    refine SX.block ?_
    refine SX.live [0, 1, 5] (fun T1 hT1 => ?_)
    simp only [forall_mem_cons', forall_mem_nil', upd_app, Φa, Φb, Φc, ev, Φd, Φe, Φf, Φg, Φh, Φi, Φj, Φk, reduceIte, reduceCtorEq, if_true, if_false, Φl, Φm, Φn, Φo, true_and, and_true, false_and, and_false, true_implies, forall_const, false_implies, ne_eq, not_true_eq_false, not_false_eq_true, decide_true, decide_false, Φp, and_self, true_or, or_true, dite_true, dite_false, Φq, Φr, decide_eq_true_eq, decide_eq_false_iff_not, Φs, Φt, Φu, Φv, beq_self_eq_true, Φw, Φx, Φy, Φz, ΦA, eq_self, hP] at hT1
    obtain ⟨h1_0, h1_1, h1_5⟩ := hT1
    refine SX.loop_k (fun (ss : (Nat)) T L' => (fun (k : Nat) => T 5 = .int .i64 (k : Int) ∧ T 0 = T1 0 ∧ T 1 = T1 1 ∧ L' = L ∧ (k ≤ xs.length ∧ ∀ j, j < k → xs[j]? = ys[j]?)) (ss)) (fun (ss : (Nat)) => (fun (k : Nat) => xs.length - k) (ss)) 0 ?_ ?_
    · try dsimp only
      refine ⟨?_, ?_, ?_, ?_, ?_⟩
      · first | exact h1_5 | (rw [h1_5]; rfl) | (rw [h1_5]; simp; done)
      · rfl
      · rfl
      · rfl
      · exact ⟨Nat.zero_le _, fun j hj => absurd hj (Nat.not_lt_zero _)⟩
    · intro k T2 L2 hI K8 hK8
      try dsimp only at hI hK8
      simp only [h1_0, h1_1] at hI hK8
      obtain ⟨h2_5, h2_0, h2_1, hL2, hk, hsame⟩ := hI
      replace hL2 := hL2.symm
      subst hL2
      clear h1_0 h1_1 h1_5 T1
      refine SX.seq_k fun K9 hK9 => ?_
      refine SX.seq_k fun K10 hK10 => ?_
      refine SX.region ?_
      simp (maxSteps := 1000000) only [upd_app, Φa, Φb, Φc, ev, Φd, Φe, Φf, Φg, Φh, Φi, Φj, Φk, reduceIte, reduceCtorEq, if_true, if_false, Φl, Φm, Φn, Φo, true_and, and_true, false_and, and_false, true_implies, forall_const, false_implies, ne_eq, not_true_eq_false, not_false_eq_true, decide_true, decide_false, Φp, and_self, true_or, or_true, dite_true, dite_false, Φq, Φr, decide_eq_true_eq, decide_eq_false_iff_not, Φs, Φt, Φu, Φv, beq_self_eq_true, Φw, Φx, Φy, Φz, ΦA, eq_self, VCplan, less_refl_t, less_drop_t, VCops, VQops, guardVC, putVC, VC, VQ, ΦB, ΦC, ΦD, ΦE, ΦF, ΦG, ΦH, List.getElem?_cons_zero, List.getElem?_cons_succ, List.getElem?_nil, List.getElem?_toArray, ΦI, ΦJ, ΦK, ΦL, ΦM, ΦN, ΦO, ΦP, ΦQ, ΦR, ΦS, ΦT, ΦU, ΦV, ΦW, ΦX, ΦY, ΦZ, Ψa, Nat.reduceLT, Ψb, Ψc, Ψd, Ψe, Nat.add_zero, Nat.zero_add, Nat.mul_one, exists_eq_left, exists_eq_left', exists_const, existsSome, Nat.zero_le, Nat.le_refl, qcall_f, call_f, len_slice, len_str, cap_slice, min_int, max_int, T.elS_30, T.szA_30, T.zr_30, Try.underlying30, bin_lss, hP, h2_5, h2_0, h2_1]
      refine hK10 _ _ ?_
      try clear hK10 K10
      refine SX.cond_k fun X11 Y11 hX11 hY11 => ?_
      simp (maxSteps := 1000000) only [upd_app, Φa, Φb, Φc, ev, Φd, Φe, Φf, Φg, Φh, Φi, Φj, Φk, reduceIte, reduceCtorEq, if_true, if_false, Φl, Φm, Φn, Φo, true_and, and_true, false_and, and_false, true_implies, forall_const, false_implies, ne_eq, not_true_eq_false, not_false_eq_true, decide_true, decide_false, Φp, and_self, true_or, or_true, dite_true, dite_false, Φq, Φr, decide_eq_true_eq, decide_eq_false_iff_not, Φs, Φt, Φu, Φv, beq_self_eq_true, Φw, Φx, Φy, Φz, ΦA, eq_self, hP, h2_5, h2_0, h2_1, condVC]
      refine ⟨fun hc14 => hX11 ?_, fun hc14 => hY11 ?_⟩
      · clear hX11 hY11 X11 Y11
        refine SX.skip ?_
        try simp only [Φd, Φe, Φf, Φg, Φh, Φi, Φj, if_true, if_false, reduceIte]
        refine hK9 _ _ ?_
        try clear hK9 K9
        refine SX.seq_k fun K12 hK12 => ?_
        refine SX.block ?_
        refine SX.seq_k fun K13 hK13 => ?_
        refine SX.quiet_x (hP ▸ T.mixed) (by kernel_rfl) ?_
        obtain ⟨a, x, ha, hx, hca, hca2⟩ := at2 hA (show k < xs.length by omega)
        obtain ⟨b, y, hb, hy, hcb, hcb2⟩ := at2 hB (show k < ys.length by omega)
        have wx := hwx x (List.mem_of_getElem? hx)
        have wy := hwy y (List.mem_of_getElem? hy)
        refine QX.cut_k 8 fun K14 hK14 => ?_
        simp (maxSteps := 1000000) only [upd_app, Φa, Φb, Φc, ev, Φd, Φe, Φf, Φg, Φh, Φi, Φj, Φk, reduceIte, reduceCtorEq, if_true, if_false, Φl, Φm, Φn, Φo, true_and, and_true, false_and, and_false, true_implies, forall_const, false_implies, ne_eq, not_true_eq_false, not_false_eq_true, decide_true, decide_false, Φp, and_self, true_or, or_true, dite_true, dite_false, Φq, Φr, decide_eq_true_eq, decide_eq_false_iff_not, Φs, Φt, Φu, Φv, beq_self_eq_true, Φw, Φx, Φy, Φz, ΦA, eq_self, VCplan, less_refl_t, less_drop_t, VCops, VQops, guardVC, putVC, VC, VQ, ΦB, ΦC, ΦD, ΦE, ΦF, ΦG, ΦH, List.getElem?_cons_zero, List.getElem?_cons_succ, List.getElem?_nil, List.getElem?_toArray, ΦI, ΦJ, ΦK, ΦL, ΦM, ΦN, ΦO, ΦP, ΦQ, ΦR, ΦS, ΦT, ΦU, ΦV, ΦW, ΦX, ΦY, ΦZ, Ψa, Nat.reduceLT, Ψb, Ψc, Ψd, Ψe, Nat.add_zero, Nat.zero_add, Nat.mul_one, exists_eq_left, exists_eq_left', exists_const, existsSome, Nat.zero_le, Nat.le_refl, ia_slice, ia_arr, Addr.add_lit, Addr.add_zero', add_addS, Int.toNat_natCast, Int.toNat_zero, Int.toNat_one, Int.reduceToNat, T.elS_30, T.szA_30, T.zr_30, Try.underlying30, ld_ptr, loadVC, loadN, T.elA_34, T.lay_34, T.szA_34, T.zr_34, Try.underlying34, hP, h2_5, h2_0, h2_1]
        refine ⟨⟨by omega, by omega⟩, a, ha, _, hca, _, hca2, ⟨by omega, by omega⟩, b, hb, _, hcb, _, hcb2, ?_⟩
        try simp (maxSteps := 1000000) only [upd_app, Φa, Φb, Φc, ev, Φd, Φe, Φf, Φg, Φh, Φi, Φj, Φk, reduceIte, reduceCtorEq, if_true, if_false, Φl, Φm, Φn, Φo, true_and, and_true, false_and, and_false, true_implies, forall_const, false_implies, ne_eq, not_true_eq_false, not_false_eq_true, decide_true, decide_false, Φp, and_self, true_or, or_true, dite_true, dite_false, Φq, Φr, decide_eq_true_eq, decide_eq_false_iff_not, Φs, Φt, Φu, Φv, beq_self_eq_true, Φw, Φx, Φy, Φz, ΦA, eq_self, VCplan, less_refl_t, less_drop_t, VCops, VQops, guardVC, putVC, VC, VQ, ΦB, ΦC, ΦD, ΦE, ΦF, ΦG, ΦH, List.getElem?_cons_zero, List.getElem?_cons_succ, List.getElem?_nil, List.getElem?_toArray, ΦI, ΦJ, ΦK, ΦL, ΦM, ΦN, ΦO, ΦP, ΦQ, ΦR, ΦS, ΦT, ΦU, ΦV, ΦW, ΦX, ΦY, ΦZ, Ψa, Nat.reduceLT, Ψb, Ψc, Ψd, Ψe, Nat.add_zero, Nat.zero_add, Nat.mul_one, exists_eq_left, exists_eq_left', exists_const, existsSome, Nat.zero_le, Nat.le_refl, ia_slice, ia_arr, Addr.add_lit, Addr.add_zero', add_addS, Int.toNat_natCast, Int.toNat_zero, Int.toNat_one, Int.reduceToNat, T.elS_30, T.szA_30, T.zr_30, Try.underlying30, ld_ptr, loadVC, loadN, T.elA_34, T.lay_34, T.szA_34, T.zr_34, Try.underlying34, hP, h2_5, h2_0, h2_1]
        refine hK14 _ _ ?_
        try clear hK14 K14
        refine QX.live [0, 1, 5, 20, 24] (fun T3 hT3 => ?_)
        simp only [forall_mem_cons', forall_mem_nil', upd_app, Φa, Φb, Φc, ev, Φd, Φe, Φf, Φg, Φh, Φi, Φj, Φk, reduceIte, reduceCtorEq, if_true, if_false, Φl, Φm, Φn, Φo, true_and, and_true, false_and, and_false, true_implies, forall_const, false_implies, ne_eq, not_true_eq_false, not_false_eq_true, decide_true, decide_false, Φp, and_self, true_or, or_true, dite_true, dite_false, Φq, Φr, decide_eq_true_eq, decide_eq_false_iff_not, Φs, Φt, Φu, Φv, beq_self_eq_true, Φw, Φx, Φy, Φz, ΦA, eq_self, hP, h2_5, h2_0, h2_1] at hT3
        obtain ⟨h3_0, h3_1, h3_5, h3_20, h3_24⟩ := hT3
        clear h2_5 h2_0 h2_1 T2
        refine QX.done ?_
        simp (maxSteps := 1000000) only [upd_app, Φa, Φb, Φc, ev, Φd, Φe, Φf, Φg, Φh, Φi, Φj, Φk, reduceIte, reduceCtorEq, if_true, if_false, Φl, Φm, Φn, Φo, true_and, and_true, false_and, and_false, true_implies, forall_const, false_implies, ne_eq, not_true_eq_false, not_false_eq_true, decide_true, decide_false, Φp, and_self, true_or, or_true, dite_true, dite_false, Φq, Φr, decide_eq_true_eq, decide_eq_false_iff_not, Φs, Φt, Φu, Φv, beq_self_eq_true, Φw, Φx, Φy, Φz, ΦA, eq_self, VCplan, less_refl_t, less_drop_t, VCops, VQops, guardVC, putVC, VC, VQ, ΦB, ΦC, ΦD, ΦE, ΦF, ΦG, ΦH, List.getElem?_cons_zero, List.getElem?_cons_succ, List.getElem?_nil, List.getElem?_toArray, ΦI, ΦJ, ΦK, ΦL, ΦM, ΦN, ΦO, ΦP, ΦQ, ΦR, ΦS, ΦT, ΦU, ΦV, ΦW, ΦX, ΦY, ΦZ, Ψa, Nat.reduceLT, Ψb, Ψc, Ψd, Ψe, Nat.add_zero, Nat.zero_add, Nat.mul_one, exists_eq_left, exists_eq_left', exists_const, existsSome, Nat.zero_le, Nat.le_refl, bin_neq, bin_neqb, bin_neqs, bin_neqa, T.elA_34, T.lay_34, T.szA_34, T.zr_34, Try.underlying34, hP, h3_0, h3_1, h3_5, h3_20, h3_24]
        refine aggEq_of eqT_34 (by simp only [okVs, okV, wf_i64, wf_u8, wf_u16, Bool.and_eq_true, decide_eq_true_eq, decide_true, true_and, and_true, Φw, Φx, and_self]; try omega) (by simp only [okVs, okV, wf_i64, wf_u8, wf_u16, Bool.and_eq_true, decide_eq_true_eq, decide_true, true_and, and_true, Φw, Φx, and_self]; try omega) (fun r hr => ?_)
        simp only [litV, ΦI, ΦJ, List.cons.injEq, Lit.int.injEq, Lit.bool.injEq, Lit.string.injEq, true_and, and_true, and_self, iff_true, eq_self] at hr
        try simp (maxSteps := 1000000) only [upd_app, Φa, Φb, Φc, ev, Φd, Φe, Φf, Φg, Φh, Φi, Φj, Φk, reduceIte, reduceCtorEq, if_true, if_false, Φl, Φm, Φn, Φo, true_and, and_true, false_and, and_false, true_implies, forall_const, false_implies, ne_eq, not_true_eq_false, not_false_eq_true, decide_true, decide_false, Φp, and_self, true_or, or_true, dite_true, dite_false, Φq, Φr, decide_eq_true_eq, decide_eq_false_iff_not, Φs, Φt, Φu, Φv, beq_self_eq_true, Φw, Φx, Φy, Φz, ΦA, eq_self, VCplan, less_refl_t, less_drop_t, VCops, VQops, guardVC, putVC, VC, VQ, ΦB, ΦC, ΦD, ΦE, ΦF, ΦG, ΦH, List.getElem?_cons_zero, List.getElem?_cons_succ, List.getElem?_nil, List.getElem?_toArray, ΦI, ΦJ, ΦK, ΦL, ΦM, ΦN, ΦO, ΦP, ΦQ, ΦR, ΦS, ΦT, ΦU, ΦV, ΦW, ΦX, ΦY, ΦZ, Ψa, Nat.reduceLT, Ψb, Ψc, Ψd, Ψe, Nat.add_zero, Nat.zero_add, Nat.mul_one, exists_eq_left, exists_eq_left', exists_const, existsSome, Nat.zero_le, Nat.le_refl, bin_neq, bin_neqb, bin_neqs, bin_neqa, T.elA_34, T.lay_34, T.szA_34, T.zr_34, Try.underlying34, hP, h3_0, h3_1, h3_5, h3_20, h3_24]
        refine hK13 _ _ ?_
        try clear hK13 K13
        refine SX.cond_k fun X15 Y15 hX15 hY15 => ?_
        simp (maxSteps := 1000000) only [upd_app, Φa, Φb, Φc, ev, Φd, Φe, Φf, Φg, Φh, Φi, Φj, Φk, reduceIte, reduceCtorEq, if_true, if_false, Φl, Φm, Φn, Φo, true_and, and_true, false_and, and_false, true_implies, forall_const, false_implies, ne_eq, not_true_eq_false, not_false_eq_true, decide_true, decide_false, Φp, and_self, true_or, or_true, dite_true, dite_false, Φq, Φr, decide_eq_true_eq, decide_eq_false_iff_not, Φs, Φt, Φu, Φv, beq_self_eq_true, Φw, Φx, Φy, Φz, ΦA, eq_self, hP, h3_0, h3_1, h3_5, h3_20, h3_24, condVC]
        refine ⟨fun hc25 => hX15 ?_, fun hc25 => hY15 ?_⟩
        · clear hX15 hY15 X15 Y15
          refine SX.seq_k fun K16 hK16 => ?_
          refine SX.region ?_
          simp (maxSteps := 1000000) only [upd_app, Φa, Φb, Φc, ev, Φd, Φe, Φf, Φg, Φh, Φi, Φj, Φk, reduceIte, reduceCtorEq, if_true, if_false, Φl, Φm, Φn, Φo, true_and, and_true, false_and, and_false, true_implies, forall_const, false_implies, ne_eq, not_true_eq_false, not_false_eq_true, decide_true, decide_false, Φp, and_self, true_or, or_true, dite_true, dite_false, Φq, Φr, decide_eq_true_eq, decide_eq_false_iff_not, Φs, Φt, Φu, Φv, beq_self_eq_true, Φw, Φx, Φy, Φz, ΦA, eq_self, VCplan, less_refl_t, less_drop_t, VCops, VQops, guardVC, putVC, VC, VQ, ΦB, ΦC, ΦD, ΦE, ΦF, ΦG, ΦH, List.getElem?_cons_zero, List.getElem?_cons_succ, List.getElem?_nil, List.getElem?_toArray, ΦI, ΦJ, ΦK, ΦL, ΦM, ΦN, ΦO, ΦP, ΦQ, ΦR, ΦS, ΦT, ΦU, ΦV, ΦW, ΦX, ΦY, ΦZ, Ψa, Nat.reduceLT, Ψb, Ψc, Ψd, Ψe, Nat.add_zero, Nat.zero_add, Nat.mul_one, exists_eq_left, exists_eq_left', exists_const, existsSome, Nat.zero_le, Nat.le_refl, hP, h3_0, h3_1, h3_5, h3_20, h3_24]
          refine hK16 _ _ ?_
          try clear hK16 K16
          refine SX.ret ?_
          simp only [Φd, Φe, Φf, Φg, Φh, Φi, Φj, if_true, if_false, reduceIte, retQ_ret]
          try simp only [res0, res1, res2, res3, upd_app, Φa, Φb, Φc, ev, Φd, Φe, Φf, Φg, Φh, Φi, Φj, Φk, reduceIte, reduceCtorEq, if_true, if_false, Φl, Φm, Φn, Φo, true_and, and_true, false_and, and_false, true_implies, forall_const, false_implies, ne_eq, not_true_eq_false, not_false_eq_true, decide_true, decide_false, Φp, and_self, true_or, or_true, dite_true, dite_false, Φq, Φr, decide_eq_true_eq, decide_eq_false_iff_not, Φs, Φt, Φu, Φv, beq_self_eq_true, Φw, Φx, Φy, Φz, ΦA, eq_self, hP, h3_0, h3_1, h3_5, h3_20, h3_24]
          refine ⟨_, _, Less.refl _, rfl, ?_, rfl⟩
          rw [decide_eq_false (fun e => ?_)]
          subst e
          rw [hx] at hy
          cases hy
          have := hr.2 ⟨rfl, rfl⟩
          rw [this] at hc25
          cases hc25
        · clear hX15 hY15 X15 Y15
          refine SX.skip ?_
          try simp only [Φd, Φe, Φf, Φg, Φh, Φi, Φj, if_true, if_false, reduceIte]
          refine hK12 _ _ ?_
          try clear hK12 K12
          refine SX.region ?_
          simp (maxSteps := 1000000) only [upd_app, Φa, Φb, Φc, ev, Φd, Φe, Φf, Φg, Φh, Φi, Φj, Φk, reduceIte, reduceCtorEq, if_true, if_false, Φl, Φm, Φn, Φo, true_and, and_true, false_and, and_false, true_implies, forall_const, false_implies, ne_eq, not_true_eq_false, not_false_eq_true, decide_true, decide_false, Φp, and_self, true_or, or_true, dite_true, dite_false, Φq, Φr, decide_eq_true_eq, decide_eq_false_iff_not, Φs, Φt, Φu, Φv, beq_self_eq_true, Φw, Φx, Φy, Φz, ΦA, eq_self, VCplan, less_refl_t, less_drop_t, VCops, VQops, guardVC, putVC, VC, VQ, ΦB, ΦC, ΦD, ΦE, ΦF, ΦG, ΦH, List.getElem?_cons_zero, List.getElem?_cons_succ, List.getElem?_nil, List.getElem?_toArray, ΦI, ΦJ, ΦK, ΦL, ΦM, ΦN, ΦO, ΦP, ΦQ, ΦR, ΦS, ΦT, ΦU, ΦV, ΦW, ΦX, ΦY, ΦZ, Ψa, Nat.reduceLT, Ψb, Ψc, Ψd, Ψe, Nat.add_zero, Nat.zero_add, Nat.mul_one, exists_eq_left, exists_eq_left', exists_const, existsSome, Nat.zero_le, Nat.le_refl, bin_add, bin_adds, hP, h3_0, h3_1, h3_5, h3_20, h3_24]
          refine hK8 (k + 1) _ (L) _ (by first | exact Less.refl _ | exact Less.drop _ _ | exact Less.drops (Less.drop _ _) | exact Less.drops (Less.drops (Less.drop _ _)) | exact Less.drops (Less.drops (Less.drops (Less.drop _ _))) | exact Less.drops (Less.drops (Less.drops (Less.drops (Less.drop _ _))))) ?_ ?_
          · try dsimp only
            refine ⟨?_, ?_, ?_, ?_, ?_⟩
            · simp (maxSteps := 1000000) only [upd_app, Φa, Φb, Φc, ev, Φd, Φe, Φf, Φg, Φh, Φi, Φj, Φk, reduceIte, reduceCtorEq, if_true, if_false, Φl, Φm, Φn, Φo, true_and, and_true, false_and, and_false, true_implies, forall_const, false_implies, ne_eq, not_true_eq_false, not_false_eq_true, decide_true, decide_false, Φp, and_self, true_or, or_true, dite_true, dite_false, Φq, Φr, decide_eq_true_eq, decide_eq_false_iff_not, Φs, Φt, Φu, Φv, beq_self_eq_true, Φw, Φx, Φy, Φz, ΦA, eq_self, hP, h3_0, h3_1, h3_5, h3_20, h3_24]
              rw [inc64 (by omega)]
            · simp (maxSteps := 1000000) only [upd_app, Φa, Φb, Φc, ev, Φd, Φe, Φf, Φg, Φh, Φi, Φj, Φk, reduceIte, reduceCtorEq, if_true, if_false, Φl, Φm, Φn, Φo, true_and, and_true, false_and, and_false, true_implies, forall_const, false_implies, ne_eq, not_true_eq_false, not_false_eq_true, decide_true, decide_false, Φp, and_self, true_or, or_true, dite_true, dite_false, Φq, Φr, decide_eq_true_eq, decide_eq_false_iff_not, Φs, Φt, Φu, Φv, beq_self_eq_true, Φw, Φx, Φy, Φz, ΦA, eq_self, hP, h3_0, h3_1, h3_5, h3_20, h3_24]
            · simp (maxSteps := 1000000) only [upd_app, Φa, Φb, Φc, ev, Φd, Φe, Φf, Φg, Φh, Φi, Φj, Φk, reduceIte, reduceCtorEq, if_true, if_false, Φl, Φm, Φn, Φo, true_and, and_true, false_and, and_false, true_implies, forall_const, false_implies, ne_eq, not_true_eq_false, not_false_eq_true, decide_true, decide_false, Φp, and_self, true_or, or_true, dite_true, dite_false, Φq, Φr, decide_eq_true_eq, decide_eq_false_iff_not, Φs, Φt, Φu, Φv, beq_self_eq_true, Φw, Φx, Φy, Φz, ΦA, eq_self, hP, h3_0, h3_1, h3_5, h3_20, h3_24]
            · rfl
            · refine ⟨by omega, fun j hj => ?_⟩
              rcases Nat.lt_succ_iff_lt_or_eq.1 hj with h | rfl
              · exact hsame j h
              · rw [hx, hy]
                obtain ⟨e1, e2⟩ := hr.1 (by simpa using hc25)
                rw [show x = y from Prod.ext e1 e2]
          · (try dsimp only); omega
      · clear hX11 hY11 X11 Y11
        refine SX.exit ?_
        try simp only [Φd, Φe, Φf, Φg, Φh, Φi, Φj, if_true, if_false, reduceIte]
        refine hK6 _ _ ?_
        try clear hK6 K6
        refine SX.seq_k fun K17 hK17 => ?_
        refine SX.region ?_
        simp (maxSteps := 1000000) only [upd_app, Φa, Φb, Φc, ev, Φd, Φe, Φf, Φg, Φh, Φi, Φj, Φk, reduceIte, reduceCtorEq, if_true, if_false, Φl, Φm, Φn, Φo, true_and, and_true, false_and, and_false, true_implies, forall_const, false_implies, ne_eq, not_true_eq_false, not_false_eq_true, decide_true, decide_false, Φp, and_self, true_or, or_true, dite_true, dite_false, Φq, Φr, decide_eq_true_eq, decide_eq_false_iff_not, Φs, Φt, Φu, Φv, beq_self_eq_true, Φw, Φx, Φy, Φz, ΦA, eq_self, VCplan, less_refl_t, less_drop_t, VCops, VQops, guardVC, putVC, VC, VQ, ΦB, ΦC, ΦD, ΦE, ΦF, ΦG, ΦH, List.getElem?_cons_zero, List.getElem?_cons_succ, List.getElem?_nil, List.getElem?_toArray, ΦI, ΦJ, ΦK, ΦL, ΦM, ΦN, ΦO, ΦP, ΦQ, ΦR, ΦS, ΦT, ΦU, ΦV, ΦW, ΦX, ΦY, ΦZ, Ψa, Nat.reduceLT, Ψb, Ψc, Ψd, Ψe, Nat.add_zero, Nat.zero_add, Nat.mul_one, exists_eq_left, exists_eq_left', exists_const, existsSome, Nat.zero_le, Nat.le_refl, hP, h2_5, h2_0, h2_1]
        refine hK17 _ _ ?_
        try clear hK17 K17
        refine SX.ret ?_
        simp only [Φd, Φe, Φf, Φg, Φh, Φi, Φj, if_true, if_false, reduceIte, retQ_ret]
        try simp only [res0, res1, res2, res3, upd_app, Φa, Φb, Φc, ev, Φd, Φe, Φf, Φg, Φh, Φi, Φj, Φk, reduceIte, reduceCtorEq, if_true, if_false, Φl, Φm, Φn, Φo, true_and, and_true, false_and, and_false, true_implies, forall_const, false_implies, ne_eq, not_true_eq_false, not_false_eq_true, decide_true, decide_false, Φp, and_self, true_or, or_true, dite_true, dite_false, Φq, Φr, decide_eq_true_eq, decide_eq_false_iff_not, Φs, Φt, Φu, Φv, beq_self_eq_true, Φw, Φx, Φy, Φz, ΦA, eq_self, hP, h2_5, h2_0, h2_1]
        exact ⟨_, _, Less.refl _, rfl, by rw [decide_eq_true (list_eq_of hc10 (fun j hj => hsame j (by omega)))], rfl⟩

def c8 (x : Bool × Int) : List Value := [.int .u8 0, .int .u16 0, .int .u8 x.2, .bool false, .bool false, .int .u8 0, .bool x.1, .int .u8 0]
theorem c8_len (x : Bool × Int) : (c8 x).length = 8 := rfl
def cb (q : Bool) : List Value := [.bool q]
def recsTo (qs : List Bool) (i : Nat) : List (Bool × Int) := (List.range i).map fun j => (qs.getD j false, IntKind.u8.wrap (j : Int))
theorem recsTo_succ (qs : List Bool) (i : Nat) : recsTo qs (i + 1) = recsTo qs i ++ [(qs.getD i false, IntKind.u8.wrap (i : Int))] := by simp [recsTo, List.range_succ]
theorem recsTo_len (qs : List Bool) (i : Nat) : (recsTo qs i).length = i := by simp [recsTo]
set_option maxHeartbeats 1000000 in
set_option maxRecDepth 100000 in
theorem records_spec {Γ : Ctx} (hP : Γ.P = Try.prog) {L : Hp} {vb : Value} {qs : List Bool} (hb : SlS 1 cb (Cell Γ L) vb qs) (hm : qs.length ≤ 2147483647) :
    SCall Γ 20 #[vb] L (fun v L' => ∃ s, L' = s :: L ∧ RowL c8 41 8 v (recsTo qs qs.length) s) := by
  obtain ⟨A, ca, rfl, hca', hA⟩ := hb
  refine SCall.enter (n := 22) (res1 2) (hP ▸ Try.func20) rfl rfl (by simp) (res1_ok rfl) ?_
  refine SX.seq_k fun K1 hK1 => ?_
  refine SX.region ?_
  simp (maxSteps := 1000000) only [upd_app, Φa, Φb, Φc, ev, Φd, Φe, Φf, Φg, Φh, Φi, Φj, Φk, reduceIte, reduceCtorEq, if_true, if_false, Φl, Φm, Φn, Φo, true_and, and_true, false_and, and_false, true_implies, forall_const, false_implies, ne_eq, not_true_eq_false, not_false_eq_true, decide_true, decide_false, Φp, and_self, true_or, or_true, dite_true, dite_false, Φq, Φr, decide_eq_true_eq, decide_eq_false_iff_not, Φs, Φt, Φu, Φv, beq_self_eq_true, Φw, Φx, Φy, Φz, ΦA, eq_self, VCplan, less_refl_t, less_drop_t, VCops, VQops, guardVC, putVC, VC, VQ, ΦB, ΦC, ΦD, ΦE, ΦF, ΦG, ΦH, List.getElem?_cons_zero, List.getElem?_cons_succ, List.getElem?_nil, List.getElem?_toArray, ΦI, ΦJ, ΦK, ΦL, ΦM, ΦN, ΦO, ΦP, ΦQ, ΦR, ΦS, ΦT, ΦU, ΦV, ΦW, ΦX, ΦY, ΦZ, Ψa, Nat.reduceLT, Ψb, Ψc, Ψd, Ψe, Nat.add_zero, Nat.zero_add, Nat.mul_one, exists_eq_left, exists_eq_left', exists_const, existsSome, Nat.zero_le, Nat.le_refl, hP]
  refine hK1 _ _ ?_
  try clear hK1 K1
  refine SX.seq_k fun K2 hK2 => ?_
  refine SX.region ?_
  simp (maxSteps := 1000000) only [upd_app, Φa, Φb, Φc, ev, Φd, Φe, Φf, Φg, Φh, Φi, Φj, Φk, reduceIte, reduceCtorEq, if_true, if_false, Φl, Φm, Φn, Φo, true_and, and_true, false_and, and_false, true_implies, forall_const, false_implies, ne_eq, not_true_eq_false, not_false_eq_true, decide_true, decide_false, Φp, and_self, true_or, or_true, dite_true, dite_false, Φq, Φr, decide_eq_true_eq, decide_eq_false_iff_not, Φs, Φt, Φu, Φv, beq_self_eq_true, Φw, Φx, Φy, Φz, ΦA, eq_self, VCplan, less_refl_t, less_drop_t, VCops, VQops, guardVC, putVC, VC, VQ, ΦB, ΦC, ΦD, ΦE, ΦF, ΦG, ΦH, List.getElem?_cons_zero, List.getElem?_cons_succ, List.getElem?_nil, List.getElem?_toArray, ΦI, ΦJ, ΦK, ΦL, ΦM, ΦN, ΦO, ΦP, ΦQ, ΦR, ΦS, ΦT, ΦU, ΦV, ΦW, ΦX, ΦY, ΦZ, Ψa, Nat.reduceLT, Ψb, Ψc, Ψd, Ψe, Nat.add_zero, Nat.zero_add, Nat.mul_one, exists_eq_left, exists_eq_left', exists_const, existsSome, Nat.zero_le, Nat.le_refl, hP]
  refine hK2 _ _ ?_
  try clear hK2 K2
  refine SX.seq_k fun K3 hK3 => ?_
  refine SX.seq_k fun K4 hK4 => ?_
  refine SX.region ?_
  simp (maxSteps := 1000000) only [upd_app, Φa, Φb, Φc, ev, Φd, Φe, Φf, Φg, Φh, Φi, Φj, Φk, reduceIte, reduceCtorEq, if_true, if_false, Φl, Φm, Φn, Φo, true_and, and_true, false_and, and_false, true_implies, forall_const, false_implies, ne_eq, not_true_eq_false, not_false_eq_true, decide_true, decide_false, Φp, and_self, true_or, or_true, dite_true, dite_false, Φq, Φr, decide_eq_true_eq, decide_eq_false_iff_not, Φs, Φt, Φu, Φv, beq_self_eq_true, Φw, Φx, Φy, Φz, ΦA, eq_self, VCplan, less_refl_t, less_drop_t, VCops, VQops, guardVC, putVC, VC, VQ, ΦB, ΦC, ΦD, ΦE, ΦF, ΦG, ΦH, List.getElem?_cons_zero, List.getElem?_cons_succ, List.getElem?_nil, List.getElem?_toArray, ΦI, ΦJ, ΦK, ΦL, ΦM, ΦN, ΦO, ΦP, ΦQ, ΦR, ΦS, ΦT, ΦU, ΦV, ΦW, ΦX, ΦY, ΦZ, Ψa, Nat.reduceLT, Ψb, Ψc, Ψd, Ψe, Nat.add_zero, Nat.zero_add, Nat.mul_one, exists_eq_left, exists_eq_left', exists_const, existsSome, Nat.zero_le, Nat.le_refl, hP]
  refine hK4 _ _ ?_
  try clear hK4 K4
  refine SX.block ?_
  refine SX.less (Less.none _) ?_
  refine SX.live [0, 3, 4] (fun T1 hT1 => ?_)
  simp only [forall_mem_cons', forall_mem_nil', upd_app, Φa, Φb, Φc, ev, Φd, Φe, Φf, Φg, Φh, Φi, Φj, Φk, reduceIte, reduceCtorEq, if_true, if_false, Φl, Φm, Φn, Φo, true_and, and_true, false_and, and_false, true_implies, forall_const, false_implies, ne_eq, not_true_eq_false, not_false_eq_true, decide_true, decide_false, Φp, and_self, true_or, or_true, dite_true, dite_false, Φq, Φr, decide_eq_true_eq, decide_eq_false_iff_not, Φs, Φt, Φu, Φv, beq_self_eq_true, Φw, Φx, Φy, Φz, ΦA, eq_self, hP] at hT1
  obtain ⟨h1_0, h1_3, h1_4⟩ := hT1
  refine SX.loop_k (fun (ss : (Nat) × (Value) × (Slot)) T L' => (fun (i : Nat) (v : Value) (s : Slot) => T 3 = v ∧ T 4 = .int .i64 (i : Int) ∧ T 0 = T1 0 ∧ L' = s :: L ∧ (i ≤ qs.length ∧ RowL c8 41 8 v (recsTo qs i) s)) (ss.1) (ss.2.1) (ss.2.2)) (fun (ss : (Nat) × (Value) × (Slot)) => (fun (i : Nat) (v : Value) (s : Slot) => qs.length - i) (ss.1) (ss.2.1) (ss.2.2)) (0, .slice none 0 0, none) ?_ ?_
  · try dsimp only
    refine ⟨?_, ?_, ?_, ?_, ?_⟩
    · first | exact h1_3 | (rw [h1_3]; rfl) | (rw [h1_3]; simp; done)
    · first | exact h1_4 | (rw [h1_4]; rfl) | (rw [h1_4]; simp; done)
    · rfl
    · rfl
    · exact ⟨Nat.zero_le _, RowL.nil _ _ _⟩
  · intro ss T2 L2 hI K5 hK5
    obtain ⟨i, v, s⟩ := ss
    try dsimp only at hI hK5
    simp only [h1_0] at hI hK5
    obtain ⟨h2_3, h2_4, h2_0, hL2, ⟨hi, hrow⟩⟩ := hI
    replace hL2 := hL2.symm
    subst hL2
    clear h1_0 h1_3 h1_4 T1
    refine SX.seq_k fun K6 hK6 => ?_
    refine SX.seq_k fun K7 hK7 => ?_
    refine SX.region ?_
    simp (maxSteps := 1000000) only [upd_app, Φa, Φb, Φc, ev, Φd, Φe, Φf, Φg, Φh, Φi, Φj, Φk, reduceIte, reduceCtorEq, if_true, if_false, Φl, Φm, Φn, Φo, true_and, and_true, false_and, and_false, true_implies, forall_const, false_implies, ne_eq, not_true_eq_false, not_false_eq_true, decide_true, decide_false, Φp, and_self, true_or, or_true, dite_true, dite_false, Φq, Φr, decide_eq_true_eq, decide_eq_false_iff_not, Φs, Φt, Φu, Φv, beq_self_eq_true, Φw, Φx, Φy, Φz, ΦA, eq_self, VCplan, less_refl_t, less_drop_t, VCops, VQops, guardVC, putVC, VC, VQ, ΦB, ΦC, ΦD, ΦE, ΦF, ΦG, ΦH, List.getElem?_cons_zero, List.getElem?_cons_succ, List.getElem?_nil, List.getElem?_toArray, ΦI, ΦJ, ΦK, ΦL, ΦM, ΦN, ΦO, ΦP, ΦQ, ΦR, ΦS, ΦT, ΦU, ΦV, ΦW, ΦX, ΦY, ΦZ, Ψa, Nat.reduceLT, Ψb, Ψc, Ψd, Ψe, Nat.add_zero, Nat.zero_add, Nat.mul_one, exists_eq_left, exists_eq_left', exists_const, existsSome, Nat.zero_le, Nat.le_refl, qcall_f, call_f, len_slice, len_str, cap_slice, min_int, max_int, T.elS_48, T.szA_48, T.zr_48, Try.underlying48, bin_lss, hP, h2_3, h2_4, h2_0]
    refine hK7 _ _ ?_
    try clear hK7 K7
    refine SX.cond_k fun X8 Y8 hX8 hY8 => ?_
    simp (maxSteps := 1000000) only [upd_app, Φa, Φb, Φc, ev, Φd, Φe, Φf, Φg, Φh, Φi, Φj, Φk, reduceIte, reduceCtorEq, if_true, if_false, Φl, Φm, Φn, Φo, true_and, and_true, false_and, and_false, true_implies, forall_const, false_implies, ne_eq, not_true_eq_false, not_false_eq_true, decide_true, decide_false, Φp, and_self, true_or, or_true, dite_true, dite_false, Φq, Φr, decide_eq_true_eq, decide_eq_false_iff_not, Φs, Φt, Φu, Φv, beq_self_eq_true, Φw, Φx, Φy, Φz, ΦA, eq_self, hP, h2_3, h2_4, h2_0, condVC]
    refine ⟨fun hc8 => hX8 ?_, fun hc8 => hY8 ?_⟩
    · clear hX8 hY8 X8 Y8
      refine SX.skip ?_
      try simp only [Φd, Φe, Φf, Φg, Φh, Φi, Φj, if_true, if_false, reduceIte]
      refine hK6 _ _ ?_
      try clear hK6 K6
      refine SX.seq_k fun K9 hK9 => ?_
      refine SX.block ?_
      have hx : qs[i]? = some (qs.getD i false) := by rw [List.getD_eq_getElem?_getD, List.getElem?_eq_getElem (show i < qs.length by omega)]; rfl
      obtain ⟨a, ha, hca⟩ := hA i _ hx
      have hc0 := hca 0 _ rfl
      rw [add_addS, Nat.mul_one, Nat.add_zero] at hc0
      have hl8 := recsTo_len qs i
      refine SX.region ?_
      simp (maxSteps := 1000000) only [upd_app, Φa, Φb, Φc, ev, Φd, Φe, Φf, Φg, Φh, Φi, Φj, Φk, reduceIte, reduceCtorEq, if_true, if_false, Φl, Φm, Φn, Φo, true_and, and_true, false_and, and_false, true_implies, forall_const, false_implies, ne_eq, not_true_eq_false, not_false_eq_true, decide_true, decide_false, Φp, and_self, true_or, or_true, dite_true, dite_false, Φq, Φr, decide_eq_true_eq, decide_eq_false_iff_not, Φs, Φt, Φu, Φv, beq_self_eq_true, Φw, Φx, Φy, Φz, ΦA, eq_self, VCplan, less_refl_t, less_drop_t, VCops, VQops, guardVC, putVC, VC, VQ, ΦB, ΦC, ΦD, ΦE, ΦF, ΦG, ΦH, List.getElem?_cons_zero, List.getElem?_cons_succ, List.getElem?_nil, List.getElem?_toArray, ΦI, ΦJ, ΦK, ΦL, ΦM, ΦN, ΦO, ΦP, ΦQ, ΦR, ΦS, ΦT, ΦU, ΦV, ΦW, ΦX, ΦY, ΦZ, Ψa, Nat.reduceLT, Ψb, Ψc, Ψd, Ψe, Nat.add_zero, Nat.zero_add, Nat.mul_one, exists_eq_left, exists_eq_left', exists_const, existsSome, Nat.zero_le, Nat.le_refl, ia_slice, ia_arr, Addr.add_lit, Addr.add_zero', add_addS, Int.toNat_natCast, Int.toNat_zero, Int.toNat_one, Int.reduceToNat, T.elS_48, T.szA_48, T.zr_48, Try.underlying48, ld_ptr, loadVC, loadN, T.szA_4, T.zr_4, Try.underlying4, conv_int, conv_slice, conv_nil, cv_str, cv_int, cv_slice, T.szA_3, T.zr_3, Try.underlying3, T.szA_5, T.zr_5, Try.underlying5, partVC, buildVC, placeL, fillL, setN, cells_int, cells_bool, cells_string, cells_pointer, cells_slice, cells_agg, oneB_nil, oneB_cons, one_int, one_bool, one_string, one_pointer, one_slice, one_map, one_func, one_nilFunc, one_nilIface, one_iface, cells_map, cells_func, cells_nilFunc, cells_nilIface, cells_iface, T.elA_41, T.lay_41, T.szA_41, T.zr_41, Try.underlying41, inOrd, catV, T.elS_22, T.szA_22, T.zr_22, Try.underlying22, qcall_f, call_f, len_slice, len_str, cap_slice, min_int, max_int, hP, h2_3, h2_4, h2_0]
      refine ⟨⟨by omega, by omega⟩, a, ha, _, Cell.cons _ hc0, ?_⟩
      try simp (maxSteps := 1000000) only [upd_app, Φa, Φb, Φc, ev, Φd, Φe, Φf, Φg, Φh, Φi, Φj, Φk, reduceIte, reduceCtorEq, if_true, if_false, Φl, Φm, Φn, Φo, true_and, and_true, false_and, and_false, true_implies, forall_const, false_implies, ne_eq, not_true_eq_false, not_false_eq_true, decide_true, decide_false, Φp, and_self, true_or, or_true, dite_true, dite_false, Φq, Φr, decide_eq_true_eq, decide_eq_false_iff_not, Φs, Φt, Φu, Φv, beq_self_eq_true, Φw, Φx, Φy, Φz, ΦA, eq_self, VCplan, less_refl_t, less_drop_t, VCops, VQops, guardVC, putVC, VC, VQ, ΦB, ΦC, ΦD, ΦE, ΦF, ΦG, ΦH, List.getElem?_cons_zero, List.getElem?_cons_succ, List.getElem?_nil, List.getElem?_toArray, ΦI, ΦJ, ΦK, ΦL, ΦM, ΦN, ΦO, ΦP, ΦQ, ΦR, ΦS, ΦT, ΦU, ΦV, ΦW, ΦX, ΦY, ΦZ, Ψa, Nat.reduceLT, Ψb, Ψc, Ψd, Ψe, Nat.add_zero, Nat.zero_add, Nat.mul_one, exists_eq_left, exists_eq_left', exists_const, existsSome, Nat.zero_le, Nat.le_refl, ia_slice, ia_arr, Addr.add_lit, Addr.add_zero', add_addS, Int.toNat_natCast, Int.toNat_zero, Int.toNat_one, Int.reduceToNat, T.elS_48, T.szA_48, T.zr_48, Try.underlying48, ld_ptr, loadVC, loadN, T.szA_4, T.zr_4, Try.underlying4, conv_int, conv_slice, conv_nil, cv_str, cv_int, cv_slice, T.szA_3, T.zr_3, Try.underlying3, T.szA_5, T.zr_5, Try.underlying5, partVC, buildVC, placeL, fillL, setN, cells_int, cells_bool, cells_string, cells_pointer, cells_slice, cells_agg, oneB_nil, oneB_cons, one_int, one_bool, one_string, one_pointer, one_slice, one_map, one_func, one_nilFunc, one_nilIface, one_iface, cells_map, cells_func, cells_nilFunc, cells_nilIface, cells_iface, T.elA_41, T.lay_41, T.szA_41, T.zr_41, Try.underlying41, inOrd, catV, T.elS_22, T.szA_22, T.zr_22, Try.underlying22, qcall_f, call_f, len_slice, len_str, cap_slice, min_int, max_int, hP, h2_3, h2_4, h2_0]
      intro bb
      refine YAppend.rowL (z := [.int .u8 0, .int .u16 0, .int .u8 0, .bool false, .bool false, .int .u8 0, .bool false, .int .u8 0]) (f := c8) (x := (qs.getD i false, IntKind.u8.wrap (i : Int))) (i := 0) (hP ▸ T.elS_22) (hP ▸ T.zr_41) rfl rfl rfl rfl hrow (by rw [recsTo_len]; omega) (by decide) (fun v2 s2 hrow2 => ?_)
      try simp (maxSteps := 1000000) only [upd_app, Φa, Φb, Φc, ev, Φd, Φe, Φf, Φg, Φh, Φi, Φj, Φk, reduceIte, reduceCtorEq, if_true, if_false, Φl, Φm, Φn, Φo, true_and, and_true, false_and, and_false, true_implies, forall_const, false_implies, ne_eq, not_true_eq_false, not_false_eq_true, decide_true, decide_false, Φp, and_self, true_or, or_true, dite_true, dite_false, Φq, Φr, decide_eq_true_eq, decide_eq_false_iff_not, Φs, Φt, Φu, Φv, beq_self_eq_true, Φw, Φx, Φy, Φz, ΦA, eq_self, VCplan, less_refl_t, less_drop_t, VCops, VQops, guardVC, putVC, VC, VQ, ΦB, ΦC, ΦD, ΦE, ΦF, ΦG, ΦH, List.getElem?_cons_zero, List.getElem?_cons_succ, List.getElem?_nil, List.getElem?_toArray, ΦI, ΦJ, ΦK, ΦL, ΦM, ΦN, ΦO, ΦP, ΦQ, ΦR, ΦS, ΦT, ΦU, ΦV, ΦW, ΦX, ΦY, ΦZ, Ψa, Nat.reduceLT, Ψb, Ψc, Ψd, Ψe, Nat.add_zero, Nat.zero_add, Nat.mul_one, exists_eq_left, exists_eq_left', exists_const, existsSome, Nat.zero_le, Nat.le_refl, ia_slice, ia_arr, Addr.add_lit, Addr.add_zero', add_addS, Int.toNat_natCast, Int.toNat_zero, Int.toNat_one, Int.reduceToNat, T.elS_48, T.szA_48, T.zr_48, Try.underlying48, ld_ptr, loadVC, loadN, T.szA_4, T.zr_4, Try.underlying4, conv_int, conv_slice, conv_nil, cv_str, cv_int, cv_slice, T.szA_3, T.zr_3, Try.underlying3, T.szA_5, T.zr_5, Try.underlying5, partVC, buildVC, placeL, fillL, setN, cells_int, cells_bool, cells_string, cells_pointer, cells_slice, cells_agg, oneB_nil, oneB_cons, one_int, one_bool, one_string, one_pointer, one_slice, one_map, one_func, one_nilFunc, one_nilIface, one_iface, cells_map, cells_func, cells_nilFunc, cells_nilIface, cells_iface, T.elA_41, T.lay_41, T.szA_41, T.zr_41, Try.underlying41, inOrd, catV, T.elS_22, T.szA_22, T.zr_22, Try.underlying22, qcall_f, call_f, len_slice, len_str, cap_slice, min_int, max_int, hP, h2_3, h2_4, h2_0]
      refine hK9 _ _ ?_
      try clear hK9 K9
      refine SX.live [0, 3, 4] (fun T3 hT3 => ?_)
      simp only [forall_mem_cons', forall_mem_nil', upd_app, Φa, Φb, Φc, ev, Φd, Φe, Φf, Φg, Φh, Φi, Φj, Φk, reduceIte, reduceCtorEq, if_true, if_false, Φl, Φm, Φn, Φo, true_and, and_true, false_and, and_false, true_implies, forall_const, false_implies, ne_eq, not_true_eq_false, not_false_eq_true, decide_true, decide_false, Φp, and_self, true_or, or_true, dite_true, dite_false, Φq, Φr, decide_eq_true_eq, decide_eq_false_iff_not, Φs, Φt, Φu, Φv, beq_self_eq_true, Φw, Φx, Φy, Φz, ΦA, eq_self, hP, h2_3, h2_4, h2_0] at hT3
      obtain ⟨h3_0, h3_3, h3_4⟩ := hT3
      clear h2_3 h2_4 h2_0 T2
      refine SX.region ?_
      simp (maxSteps := 1000000) only [upd_app, Φa, Φb, Φc, ev, Φd, Φe, Φf, Φg, Φh, Φi, Φj, Φk, reduceIte, reduceCtorEq, if_true, if_false, Φl, Φm, Φn, Φo, true_and, and_true, false_and, and_false, true_implies, forall_const, false_implies, ne_eq, not_true_eq_false, not_false_eq_true, decide_true, decide_false, Φp, and_self, true_or, or_true, dite_true, dite_false, Φq, Φr, decide_eq_true_eq, decide_eq_false_iff_not, Φs, Φt, Φu, Φv, beq_self_eq_true, Φw, Φx, Φy, Φz, ΦA, eq_self, VCplan, less_refl_t, less_drop_t, VCops, VQops, guardVC, putVC, VC, VQ, ΦB, ΦC, ΦD, ΦE, ΦF, ΦG, ΦH, List.getElem?_cons_zero, List.getElem?_cons_succ, List.getElem?_nil, List.getElem?_toArray, ΦI, ΦJ, ΦK, ΦL, ΦM, ΦN, ΦO, ΦP, ΦQ, ΦR, ΦS, ΦT, ΦU, ΦV, ΦW, ΦX, ΦY, ΦZ, Ψa, Nat.reduceLT, Ψb, Ψc, Ψd, Ψe, Nat.add_zero, Nat.zero_add, Nat.mul_one, exists_eq_left, exists_eq_left', exists_const, existsSome, Nat.zero_le, Nat.le_refl, bin_add, bin_adds, hP, h3_0, h3_3, h3_4]
      refine hK5 (i + 1, v2, s2) _ (s2 :: L) _ (by first | exact Less.refl _ | exact Less.drop _ _ | exact Less.drops (Less.drop _ _) | exact Less.drops (Less.drops (Less.drop _ _)) | exact Less.drops (Less.drops (Less.drops (Less.drop _ _))) | exact Less.drops (Less.drops (Less.drops (Less.drops (Less.drop _ _))))) ?_ ?_
      · try dsimp only
        refine ⟨?_, ?_, ?_, ?_, ?_⟩
        · simp (maxSteps := 1000000) only [upd_app, Φa, Φb, Φc, ev, Φd, Φe, Φf, Φg, Φh, Φi, Φj, Φk, reduceIte, reduceCtorEq, if_true, if_false, Φl, Φm, Φn, Φo, true_and, and_true, false_and, and_false, true_implies, forall_const, false_implies, ne_eq, not_true_eq_false, not_false_eq_true, decide_true, decide_false, Φp, and_self, true_or, or_true, dite_true, dite_false, Φq, Φr, decide_eq_true_eq, decide_eq_false_iff_not, Φs, Φt, Φu, Φv, beq_self_eq_true, Φw, Φx, Φy, Φz, ΦA, eq_self, hP, h3_0, h3_3, h3_4]
          first | done | rfl | skip
        · simp (maxSteps := 1000000) only [upd_app, Φa, Φb, Φc, ev, Φd, Φe, Φf, Φg, Φh, Φi, Φj, Φk, reduceIte, reduceCtorEq, if_true, if_false, Φl, Φm, Φn, Φo, true_and, and_true, false_and, and_false, true_implies, forall_const, false_implies, ne_eq, not_true_eq_false, not_false_eq_true, decide_true, decide_false, Φp, and_self, true_or, or_true, dite_true, dite_false, Φq, Φr, decide_eq_true_eq, decide_eq_false_iff_not, Φs, Φt, Φu, Φv, beq_self_eq_true, Φw, Φx, Φy, Φz, ΦA, eq_self, hP, h3_0, h3_3, h3_4]
          rw [inc64 (by omega)]
        · simp (maxSteps := 1000000) only [upd_app, Φa, Φb, Φc, ev, Φd, Φe, Φf, Φg, Φh, Φi, Φj, Φk, reduceIte, reduceCtorEq, if_true, if_false, Φl, Φm, Φn, Φo, true_and, and_true, false_and, and_false, true_implies, forall_const, false_implies, ne_eq, not_true_eq_false, not_false_eq_true, decide_true, decide_false, Φp, and_self, true_or, or_true, dite_true, dite_false, Φq, Φr, decide_eq_true_eq, decide_eq_false_iff_not, Φs, Φt, Φu, Φv, beq_self_eq_true, Φw, Φx, Φy, Φz, ΦA, eq_self, hP, h3_0, h3_3, h3_4]
        · rfl
        · refine ⟨by omega, ?_⟩
          rw [recsTo_succ]; exact hrow2
      · (try dsimp only); omega
    · clear hX8 hY8 X8 Y8
      refine SX.exit ?_
      try simp only [Φd, Φe, Φf, Φg, Φh, Φi, Φj, if_true, if_false, reduceIte]
      refine hK3 _ _ ?_
      try clear hK3 K3
      refine SX.seq_k fun K10 hK10 => ?_
      refine SX.region ?_
      simp (maxSteps := 1000000) only [upd_app, Φa, Φb, Φc, ev, Φd, Φe, Φf, Φg, Φh, Φi, Φj, Φk, reduceIte, reduceCtorEq, if_true, if_false, Φl, Φm, Φn, Φo, true_and, and_true, false_and, and_false, true_implies, forall_const, false_implies, ne_eq, not_true_eq_false, not_false_eq_true, decide_true, decide_false, Φp, and_self, true_or, or_true, dite_true, dite_false, Φq, Φr, decide_eq_true_eq, decide_eq_false_iff_not, Φs, Φt, Φu, Φv, beq_self_eq_true, Φw, Φx, Φy, Φz, ΦA, eq_self, VCplan, less_refl_t, less_drop_t, VCops, VQops, guardVC, putVC, VC, VQ, ΦB, ΦC, ΦD, ΦE, ΦF, ΦG, ΦH, List.getElem?_cons_zero, List.getElem?_cons_succ, List.getElem?_nil, List.getElem?_toArray, ΦI, ΦJ, ΦK, ΦL, ΦM, ΦN, ΦO, ΦP, ΦQ, ΦR, ΦS, ΦT, ΦU, ΦV, ΦW, ΦX, ΦY, ΦZ, Ψa, Nat.reduceLT, Ψb, Ψc, Ψd, Ψe, Nat.add_zero, Nat.zero_add, Nat.mul_one, exists_eq_left, exists_eq_left', exists_const, existsSome, Nat.zero_le, Nat.le_refl, hP, h2_3, h2_4, h2_0]
      refine hK10 _ _ ?_
      try clear hK10 K10
      refine SX.ret ?_
      simp only [Φd, Φe, Φf, Φg, Φh, Φi, Φj, if_true, if_false, reduceIte, retQ_ret]
      try simp only [res0, res1, res2, res3, upd_app, Φa, Φb, Φc, ev, Φd, Φe, Φf, Φg, Φh, Φi, Φj, Φk, reduceIte, reduceCtorEq, if_true, if_false, Φl, Φm, Φn, Φo, true_and, and_true, false_and, and_false, true_implies, forall_const, false_implies, ne_eq, not_true_eq_false, not_false_eq_true, decide_true, decide_false, Φp, and_self, true_or, or_true, dite_true, dite_false, Φq, Φr, decide_eq_true_eq, decide_eq_false_iff_not, Φs, Φt, Φu, Φv, beq_self_eq_true, Φw, Φx, Φy, Φz, ΦA, eq_self, hP, h2_3, h2_4, h2_0]
      refine ⟨_, _, Less.refl _, rfl, s, rfl, ?_⟩
      obtain rfl : i = qs.length := by omega
      exact hrow
end Go.Proofs.Ytkeefmneldflaaa
