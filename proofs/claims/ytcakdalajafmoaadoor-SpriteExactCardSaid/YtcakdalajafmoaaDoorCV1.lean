/- A part of the proof of SpriteExactCardSaid. -/
import Derived.Test.YtcakdalajafmoaaDoorCSxNum
import Derived.Test.YtcakdalajafmoaaDoorCSxT
set_option linter.unusedVariables false
set_option linter.unusedSimpArgs false
namespace Go.Proofs.YtcakdalajafmoaaDoor
open Go.RowKit Go.SX
open Go.SX renaming env0_zero → Φa, env0_succ → Φb, env0_nil → Φc, andThen_normal → Φd, andThen_ret → Φe, andThen_exit → Φf, inBlk_normal → Φg, inBlk_ret → Φh, inBlk_exit → Φi
open Nat renaming reduceEqDiff → Φj, reduceBEq → Φk, reduceLeDiff → ΦS
open Bool renaming not_true → Φl, not_false → Φm, false_eq_true → Φn, true_eq_false → Φo, not_eq_true' → Φq, not_eq_false' → Φr, not_eq_true → Φt, not_eq_false → Φu, and_true → Φw, true_and → Φx, and_self → Φy, and_false → Φz, false_and → ΦA
open Int renaming reduceEq → Φp, natCast_inj → Φv
open Decidable renaming not_not → Φs
open Option renaming bind_some → ΦB, bind_none → ΦC, isSome_some → ΦD, isSome_none → ΦE
open Option.some renaming injEq → ΦF
open List renaming map_toArray → ΦG, toList_toArray → ΦH, append_toArray → ΦI, cons_append → ΦJ, flatMap_cons → ΦK, flatMap_nil → ΦL, length_cons → ΦM, set_cons_zero → ΦN, set_cons_succ → ΦO, drop_succ_cons → ΦP, take_succ_cons → ΦQ, size_toArray → ΦR
set_option maxHeartbeats 1000000 in
set_option maxRecDepth 100000 in
theorem same_spec {Γ : Ctx} (hP : Γ.P = Tryd.prog) {L : Hp} {va vb : Value} {xs ys : List Int} (ha : SlI .u8 (Cell Γ L) va xs) (hb : SlI .u8 (Cell Γ L) vb ys) (hm : xs.length ≤ 140737488351232) :
    SCall Γ 10 #[va, vb] L (fun v L' => v = .bool (decide (xs = ys)) ∧ L' = L) := by
  obtain ⟨A, ca, rfl, hca', hA⟩ := ha
  obtain ⟨B, cb, rfl, hcb', hB⟩ := hb
  refine SCall.enter (n := 26) (res1 4) (hP ▸ Tryd.func10) rfl rfl (by simp) (res1_ok rfl) ?_
  refine SX.seq_k fun K1 hK1 => ?_
  refine SX.region ?_
  simp (maxSteps := 1000000) only [upd_app, Φa, Φb, Φc, ev, Φd, Φe, Φf, Φg, Φh, Φi, Φj, Φk, reduceIte, reduceCtorEq, if_true, if_false, Φl, Φm, Φn, Φo, true_and, and_true, false_and, and_false, true_implies, forall_const, false_implies, ne_eq, not_true_eq_false, not_false_eq_true, decide_true, decide_false, Φp, and_self, true_or, or_true, dite_true, dite_false, Φq, Φr, decide_eq_true_eq, decide_eq_false_iff_not, Φs, Φt, Φu, Φv, beq_self_eq_true, Φw, Φx, Φy, Φz, ΦA, eq_self, VCplan, less_refl_t, less_drop_t, VCops, VQops, guardVC, putVC, VC, VQ, Option.map_some, Option.map_none, ΦB, ΦC, ΦD, ΦE, ΦF, List.getElem?_cons_zero, List.getElem?_cons_succ, List.getElem?_nil, List.getElem?_toArray, List.map_cons, List.map_nil, ΦG, ΦH, ΦI, List.nil_append, ΦJ, List.append_nil, ΦK, ΦL, ΦM, List.length_nil, ΦN, ΦO, List.drop_zero, ΦP, ΦQ, List.take_zero, ΦR, Nat.reduceLT, ΦS, Nat.reduceAdd, Nat.reduceMul, Nat.reduceSub, Nat.add_zero, Nat.zero_add, Nat.mul_one, exists_eq_left, exists_eq_left', exists_const, existsSome, Nat.zero_le, Nat.le_refl, hP]
  refine hK1 _ _ ?_
  try clear hK1 K1
  refine SX.seq_k fun K2 hK2 => ?_
  refine SX.seq_k fun K3 hK3 => ?_
  refine SX.region ?_
  simp (maxSteps := 1000000) only [upd_app, Φa, Φb, Φc, ev, Φd, Φe, Φf, Φg, Φh, Φi, Φj, Φk, reduceIte, reduceCtorEq, if_true, if_false, Φl, Φm, Φn, Φo, true_and, and_true, false_and, and_false, true_implies, forall_const, false_implies, ne_eq, not_true_eq_false, not_false_eq_true, decide_true, decide_false, Φp, and_self, true_or, or_true, dite_true, dite_false, Φq, Φr, decide_eq_true_eq, decide_eq_false_iff_not, Φs, Φt, Φu, Φv, beq_self_eq_true, Φw, Φx, Φy, Φz, ΦA, eq_self, VCplan, less_refl_t, less_drop_t, VCops, VQops, guardVC, putVC, VC, VQ, Option.map_some, Option.map_none, ΦB, ΦC, ΦD, ΦE, ΦF, List.getElem?_cons_zero, List.getElem?_cons_succ, List.getElem?_nil, List.getElem?_toArray, List.map_cons, List.map_nil, ΦG, ΦH, ΦI, List.nil_append, ΦJ, List.append_nil, ΦK, ΦL, ΦM, List.length_nil, ΦN, ΦO, List.drop_zero, ΦP, ΦQ, List.take_zero, ΦR, Nat.reduceLT, ΦS, Nat.reduceAdd, Nat.reduceMul, Nat.reduceSub, Nat.add_zero, Nat.zero_add, Nat.mul_one, exists_eq_left, exists_eq_left', exists_const, existsSome, Nat.zero_le, Nat.le_refl, qcall_f, call_f, len_slice, len_str, cap_slice, min_int, max_int, T.elS_25, T.szA_25, T.zr_25, Tryd.underlying25, bin_neq, bin_neqb, bin_neqs, bin_neqa, T.szA_3, T.zr_3, Tryd.underlying3, hP]
  refine hK3 _ _ ?_
  try clear hK3 K3
  refine SX.cond_k fun X4 Y4 hX4 hY4 => ?_
  simp (maxSteps := 1000000) only [upd_app, Φa, Φb, Φc, ev, Φd, Φe, Φf, Φg, Φh, Φi, Φj, Φk, reduceIte, reduceCtorEq, if_true, if_false, Φl, Φm, Φn, Φo, true_and, and_true, false_and, and_false, true_implies, forall_const, false_implies, ne_eq, not_true_eq_false, not_false_eq_true, decide_true, decide_false, Φp, and_self, true_or, or_true, dite_true, dite_false, Φq, Φr, decide_eq_true_eq, decide_eq_false_iff_not, Φs, Φt, Φu, Φv, beq_self_eq_true, Φw, Φx, Φy, Φz, ΦA, eq_self, hP, condVC]
  refine ⟨fun hc10 => hX4 ?_, fun hc10 => hY4 ?_⟩
  · clear hX4 hY4 X4 Y4
    refine SX.seq_k fun K5 hK5 => ?_
    refine SX.region ?_
    simp (maxSteps := 1000000) only [upd_app, Φa, Φb, Φc, ev, Φd, Φe, Φf, Φg, Φh, Φi, Φj, Φk, reduceIte, reduceCtorEq, if_true, if_false, Φl, Φm, Φn, Φo, true_and, and_true, false_and, and_false, true_implies, forall_const, false_implies, ne_eq, not_true_eq_false, not_false_eq_true, decide_true, decide_false, Φp, and_self, true_or, or_true, dite_true, dite_false, Φq, Φr, decide_eq_true_eq, decide_eq_false_iff_not, Φs, Φt, Φu, Φv, beq_self_eq_true, Φw, Φx, Φy, Φz, ΦA, eq_self, VCplan, less_refl_t, less_drop_t, VCops, VQops, guardVC, putVC, VC, VQ, Option.map_some, Option.map_none, ΦB, ΦC, ΦD, ΦE, ΦF, List.getElem?_cons_zero, List.getElem?_cons_succ, List.getElem?_nil, List.getElem?_toArray, List.map_cons, List.map_nil, ΦG, ΦH, ΦI, List.nil_append, ΦJ, List.append_nil, ΦK, ΦL, ΦM, List.length_nil, ΦN, ΦO, List.drop_zero, ΦP, ΦQ, List.take_zero, ΦR, Nat.reduceLT, ΦS, Nat.reduceAdd, Nat.reduceMul, Nat.reduceSub, Nat.add_zero, Nat.zero_add, Nat.mul_one, exists_eq_left, exists_eq_left', exists_const, existsSome, Nat.zero_le, Nat.le_refl, hP]
    refine hK5 _ _ ?_
    try clear hK5 K5
    refine SX.ret ?_
    simp only [Φd, Φe, Φf, Φg, Φh, Φi, Φj, if_true, if_false, reduceIte, retQ_ret]
    try simp only [res0, res1, res2, res3, upd_app, Φa, Φb, Φc, ev, Φd, Φe, Φf, Φg, Φh, Φi, Φj, Φk, reduceIte, reduceCtorEq, if_true, if_false, Φl, Φm, Φn, Φo, true_and, and_true, false_and, and_false, true_implies, forall_const, false_implies, ne_eq, not_true_eq_false, not_false_eq_true, decide_true, decide_false, Φp, and_self, true_or, or_true, dite_true, dite_false, Φq, Φr, decide_eq_true_eq, decide_eq_false_iff_not, Φs, Φt, Φu, Φv, beq_self_eq_true, Φw, Φx, Φy, Φz, ΦA, eq_self, hP]
    exact ⟨_, _, Less.refl _, rfl, by rw [decide_eq_false (fun e => hc10 (by rw [e]))], rfl⟩
  · clear hX4 hY4 X4 Y4
    refine SX.skip ?_
    try simp only [Φd, Φe, Φf, Φg, Φh, Φi, Φj, if_true, if_false, reduceIte]
    refine hK2 _ _ ?_
    try clear hK2 K2
    refine SX.seq_k fun K6 hK6 => ?_
    refine SX.seq_k fun K7 hK7 => ?_
    refine SX.region ?_
    simp (maxSteps := 1000000) only [upd_app, Φa, Φb, Φc, ev, Φd, Φe, Φf, Φg, Φh, Φi, Φj, Φk, reduceIte, reduceCtorEq, if_true, if_false, Φl, Φm, Φn, Φo, true_and, and_true, false_and, and_false, true_implies, forall_const, false_implies, ne_eq, not_true_eq_false, not_false_eq_true, decide_true, decide_false, Φp, and_self, true_or, or_true, dite_true, dite_false, Φq, Φr, decide_eq_true_eq, decide_eq_false_iff_not, Φs, Φt, Φu, Φv, beq_self_eq_true, Φw, Φx, Φy, Φz, ΦA, eq_self, VCplan, less_refl_t, less_drop_t, VCops, VQops, guardVC, putVC, VC, VQ, Option.map_some, Option.map_none, ΦB, ΦC, ΦD, ΦE, ΦF, List.getElem?_cons_zero, List.getElem?_cons_succ, List.getElem?_nil, List.getElem?_toArray, List.map_cons, List.map_nil, ΦG, ΦH, ΦI, List.nil_append, ΦJ, List.append_nil, ΦK, ΦL, ΦM, List.length_nil, ΦN, ΦO, List.drop_zero, ΦP, ΦQ, List.take_zero, ΦR, Nat.reduceLT, ΦS, Nat.reduceAdd, Nat.reduceMul, Nat.reduceSub, Nat.add_zero, Nat.zero_add, Nat.mul_one, exists_eq_left, exists_eq_left', exists_const, existsSome, Nat.zero_le, Nat.le_refl, hP]
    refine hK7 _ _ ?_
    try clear hK7 K7
    refine SX.block ?_
    refine SX.live [0, 1, 5] (fun T1 hT1 => ?_)
    simp only [forall_mem_cons', forall_mem_nil', upd_app, Φa, Φb, Φc, ev, Φd, Φe, Φf, Φg, Φh, Φi, Φj, Φk, reduceIte, reduceCtorEq, if_true, if_false, Φl, Φm, Φn, Φo, true_and, and_true, false_and, and_false, true_implies, forall_const, false_implies, ne_eq, not_true_eq_false, not_false_eq_true, decide_true, decide_false, Φp, and_self, true_or, or_true, dite_true, dite_false, Φq, Φr, decide_eq_true_eq, decide_eq_false_iff_not, Φs, Φt, Φu, Φv, beq_self_eq_true, Φw, Φx, Φy, Φz, ΦA, eq_self, hP] at hT1
    obtain ⟨h1_0, h1_1, h1_5⟩ := hT1
    refine SX.loop_k (fun (ss : (Nat)) T L' => (fun (k : Nat) => T 5 = .int .i64 (k : Int) ∧ T 0 = T1 0 ∧ T 1 = T1 1 ∧ L' = L ∧ (k ≤ xs.length ∧ ∀ j, j < k → xs[j]? = ys[j]?)) (ss)) (fun (ss : (Nat)) => (fun (k : Nat) => xs.length - k) (ss)) 0 ?_ ?_
    · try dsimp only
      refine ⟨?_, ?_, ?_, ?_, ?_⟩
      · first | exact h1_5 | (rw [h1_5]; rfl) | (rw [h1_5]; simp; done)
      · rfl
      · rfl
      · rfl
      · exact ⟨Nat.zero_le _, fun j hj => absurd hj (Nat.not_lt_zero _)⟩
    · intro k T2 L2 hI K8 hK8
      try dsimp only at hI hK8
      simp only [h1_0, h1_1] at hI hK8
      obtain ⟨h2_5, h2_0, h2_1, hL2, hk, hsame⟩ := hI
      replace hL2 := hL2.symm
      subst hL2
      clear h1_0 h1_1 h1_5 T1
      refine SX.seq_k fun K9 hK9 => ?_
      refine SX.seq_k fun K10 hK10 => ?_
      refine SX.region ?_
      simp (maxSteps := 1000000) only [upd_app, Φa, Φb, Φc, ev, Φd, Φe, Φf, Φg, Φh, Φi, Φj, Φk, reduceIte, reduceCtorEq, if_true, if_false, Φl, Φm, Φn, Φo, true_and, and_true, false_and, and_false, true_implies, forall_const, false_implies, ne_eq, not_true_eq_false, not_false_eq_true, decide_true, decide_false, Φp, and_self, true_or, or_true, dite_true, dite_false, Φq, Φr, decide_eq_true_eq, decide_eq_false_iff_not, Φs, Φt, Φu, Φv, beq_self_eq_true, Φw, Φx, Φy, Φz, ΦA, eq_self, VCplan, less_refl_t, less_drop_t, VCops, VQops, guardVC, putVC, VC, VQ, Option.map_some, Option.map_none, ΦB, ΦC, ΦD, ΦE, ΦF, List.getElem?_cons_zero, List.getElem?_cons_succ, List.getElem?_nil, List.getElem?_toArray, List.map_cons, List.map_nil, ΦG, ΦH, ΦI, List.nil_append, ΦJ, List.append_nil, ΦK, ΦL, ΦM, List.length_nil, ΦN, ΦO, List.drop_zero, ΦP, ΦQ, List.take_zero, ΦR, Nat.reduceLT, ΦS, Nat.reduceAdd, Nat.reduceMul, Nat.reduceSub, Nat.add_zero, Nat.zero_add, Nat.mul_one, exists_eq_left, exists_eq_left', exists_const, existsSome, Nat.zero_le, Nat.le_refl, qcall_f, call_f, len_slice, len_str, cap_slice, min_int, max_int, T.elS_25, T.szA_25, T.zr_25, Tryd.underlying25, bin_lss, hP, h2_5, h2_0, h2_1]
      refine hK10 _ _ ?_
      try clear hK10 K10
      refine SX.cond_k fun X11 Y11 hX11 hY11 => ?_
      simp (maxSteps := 1000000) only [upd_app, Φa, Φb, Φc, ev, Φd, Φe, Φf, Φg, Φh, Φi, Φj, Φk, reduceIte, reduceCtorEq, if_true, if_false, Φl, Φm, Φn, Φo, true_and, and_true, false_and, and_false, true_implies, forall_const, false_implies, ne_eq, not_true_eq_false, not_false_eq_true, decide_true, decide_false, Φp, and_self, true_or, or_true, dite_true, dite_false, Φq, Φr, decide_eq_true_eq, decide_eq_false_iff_not, Φs, Φt, Φu, Φv, beq_self_eq_true, Φw, Φx, Φy, Φz, ΦA, eq_self, hP, h2_5, h2_0, h2_1, condVC]
      refine ⟨fun hc14 => hX11 ?_, fun hc14 => hY11 ?_⟩
      · clear hX11 hY11 X11 Y11
        refine SX.skip ?_
        try simp only [Φd, Φe, Φf, Φg, Φh, Φi, Φj, if_true, if_false, reduceIte]
        refine hK9 _ _ ?_
        try clear hK9 K9
        refine SX.seq_k fun K12 hK12 => ?_
        refine SX.block ?_
        refine SX.seq_k fun K13 hK13 => ?_
        have hx : xs[k]? = some xs[k] := List.getElem?_eq_getElem (by omega)
        have hy : ys[k]? = some ys[k] := List.getElem?_eq_getElem (by omega)
        obtain ⟨a, ha, hca⟩ := hA k _ hx
        obtain ⟨b, hb, hcb⟩ := hB k _ hy
        simp only [Nat.mul_one] at hca hcb
        refine SX.quiet (hP ▸ T.mixed) (by kernel_rfl) ?_
        simp (maxSteps := 1000000) only [upd_app, Φa, Φb, Φc, ev, Φd, Φe, Φf, Φg, Φh, Φi, Φj, Φk, reduceIte, reduceCtorEq, if_true, if_false, Φl, Φm, Φn, Φo, true_and, and_true, false_and, and_false, true_implies, forall_const, false_implies, ne_eq, not_true_eq_false, not_false_eq_true, decide_true, decide_false, Φp, and_self, true_or, or_true, dite_true, dite_false, Φq, Φr, decide_eq_true_eq, decide_eq_false_iff_not, Φs, Φt, Φu, Φv, beq_self_eq_true, Φw, Φx, Φy, Φz, ΦA, eq_self, VCplan, less_refl_t, less_drop_t, VCops, VQops, guardVC, putVC, VC, VQ, Option.map_some, Option.map_none, ΦB, ΦC, ΦD, ΦE, ΦF, List.getElem?_cons_zero, List.getElem?_cons_succ, List.getElem?_nil, List.getElem?_toArray, List.map_cons, List.map_nil, ΦG, ΦH, ΦI, List.nil_append, ΦJ, List.append_nil, ΦK, ΦL, ΦM, List.length_nil, ΦN, ΦO, List.drop_zero, ΦP, ΦQ, List.take_zero, ΦR, Nat.reduceLT, ΦS, Nat.reduceAdd, Nat.reduceMul, Nat.reduceSub, Nat.add_zero, Nat.zero_add, Nat.mul_one, exists_eq_left, exists_eq_left', exists_const, existsSome, Nat.zero_le, Nat.le_refl, ia_slice, ia_arr, Addr.add_lit, Addr.add_zero', add_addS, Int.toNat_natCast, Int.toNat_zero, Int.toNat_one, Int.reduceToNat, T.elS_25, T.szA_25, T.zr_25, Tryd.underlying25, ld_ptr, loadVC, loadN, T.szA_5, T.zr_5, Tryd.underlying5, bin_neq, bin_neqb, bin_neqs, bin_neqa, hP, h2_5, h2_0, h2_1]
        refine ⟨⟨by omega, by omega⟩, a, ha, _, hca, ⟨by omega, by omega⟩, b, hb, _, hcb, ?_⟩
        try simp (maxSteps := 1000000) only [upd_app, Φa, Φb, Φc, ev, Φd, Φe, Φf, Φg, Φh, Φi, Φj, Φk, reduceIte, reduceCtorEq, if_true, if_false, Φl, Φm, Φn, Φo, true_and, and_true, false_and, and_false, true_implies, forall_const, false_implies, ne_eq, not_true_eq_false, not_false_eq_true, decide_true, decide_false, Φp, and_self, true_or, or_true, dite_true, dite_false, Φq, Φr, decide_eq_true_eq, decide_eq_false_iff_not, Φs, Φt, Φu, Φv, beq_self_eq_true, Φw, Φx, Φy, Φz, ΦA, eq_self, VCplan, less_refl_t, less_drop_t, VCops, VQops, guardVC, putVC, VC, VQ, Option.map_some, Option.map_none, ΦB, ΦC, ΦD, ΦE, ΦF, List.getElem?_cons_zero, List.getElem?_cons_succ, List.getElem?_nil, List.getElem?_toArray, List.map_cons, List.map_nil, ΦG, ΦH, ΦI, List.nil_append, ΦJ, List.append_nil, ΦK, ΦL, ΦM, List.length_nil, ΦN, ΦO, List.drop_zero, ΦP, ΦQ, List.take_zero, ΦR, Nat.reduceLT, ΦS, Nat.reduceAdd, Nat.reduceMul, Nat.reduceSub, Nat.add_zero, Nat.zero_add, Nat.mul_one, exists_eq_left, exists_eq_left', exists_const, existsSome, Nat.zero_le, Nat.le_refl, ia_slice, ia_arr, Addr.add_lit, Addr.add_zero', add_addS, Int.toNat_natCast, Int.toNat_zero, Int.toNat_one, Int.reduceToNat, T.elS_25, T.szA_25, T.zr_25, Tryd.underlying25, ld_ptr, loadVC, loadN, T.szA_5, T.zr_5, Tryd.underlying5, bin_neq, bin_neqb, bin_neqs, bin_neqa, hP, h2_5, h2_0, h2_1]
        refine hK13 _ _ ?_
        try clear hK13 K13
        refine SX.live [0, 1, 5, 25] (fun T3 hT3 => ?_)
        simp only [forall_mem_cons', forall_mem_nil', upd_app, Φa, Φb, Φc, ev, Φd, Φe, Φf, Φg, Φh, Φi, Φj, Φk, reduceIte, reduceCtorEq, if_true, if_false, Φl, Φm, Φn, Φo, true_and, and_true, false_and, and_false, true_implies, forall_const, false_implies, ne_eq, not_true_eq_false, not_false_eq_true, decide_true, decide_false, Φp, and_self, true_or, or_true, dite_true, dite_false, Φq, Φr, decide_eq_true_eq, decide_eq_false_iff_not, Φs, Φt, Φu, Φv, beq_self_eq_true, Φw, Φx, Φy, Φz, ΦA, eq_self, hP, h2_5, h2_0, h2_1] at hT3
        obtain ⟨h3_0, h3_1, h3_5, h3_25⟩ := hT3
        clear h2_5 h2_0 h2_1 T2
        refine SX.cond_k fun X14 Y14 hX14 hY14 => ?_
        simp (maxSteps := 1000000) only [upd_app, Φa, Φb, Φc, ev, Φd, Φe, Φf, Φg, Φh, Φi, Φj, Φk, reduceIte, reduceCtorEq, if_true, if_false, Φl, Φm, Φn, Φo, true_and, and_true, false_and, and_false, true_implies, forall_const, false_implies, ne_eq, not_true_eq_false, not_false_eq_true, decide_true, decide_false, Φp, and_self, true_or, or_true, dite_true, dite_false, Φq, Φr, decide_eq_true_eq, decide_eq_false_iff_not, Φs, Φt, Φu, Φv, beq_self_eq_true, Φw, Φx, Φy, Φz, ΦA, eq_self, hP, h3_0, h3_1, h3_5, h3_25, condVC]
        refine ⟨fun hc25 => hX14 ?_, fun hc25 => hY14 ?_⟩
        · clear hX14 hY14 X14 Y14
          refine SX.seq_k fun K15 hK15 => ?_
          refine SX.region ?_
          simp (maxSteps := 1000000) only [upd_app, Φa, Φb, Φc, ev, Φd, Φe, Φf, Φg, Φh, Φi, Φj, Φk, reduceIte, reduceCtorEq, if_true, if_false, Φl, Φm, Φn, Φo, true_and, and_true, false_and, and_false, true_implies, forall_const, false_implies, ne_eq, not_true_eq_false, not_false_eq_true, decide_true, decide_false, Φp, and_self, true_or, or_true, dite_true, dite_false, Φq, Φr, decide_eq_true_eq, decide_eq_false_iff_not, Φs, Φt, Φu, Φv, beq_self_eq_true, Φw, Φx, Φy, Φz, ΦA, eq_self, VCplan, less_refl_t, less_drop_t, VCops, VQops, guardVC, putVC, VC, VQ, Option.map_some, Option.map_none, ΦB, ΦC, ΦD, ΦE, ΦF, List.getElem?_cons_zero, List.getElem?_cons_succ, List.getElem?_nil, List.getElem?_toArray, List.map_cons, List.map_nil, ΦG, ΦH, ΦI, List.nil_append, ΦJ, List.append_nil, ΦK, ΦL, ΦM, List.length_nil, ΦN, ΦO, List.drop_zero, ΦP, ΦQ, List.take_zero, ΦR, Nat.reduceLT, ΦS, Nat.reduceAdd, Nat.reduceMul, Nat.reduceSub, Nat.add_zero, Nat.zero_add, Nat.mul_one, exists_eq_left, exists_eq_left', exists_const, existsSome, Nat.zero_le, Nat.le_refl, hP, h3_0, h3_1, h3_5, h3_25]
          refine hK15 _ _ ?_
          try clear hK15 K15
          refine SX.ret ?_
          simp only [Φd, Φe, Φf, Φg, Φh, Φi, Φj, if_true, if_false, reduceIte, retQ_ret]
          try simp only [res0, res1, res2, res3, upd_app, Φa, Φb, Φc, ev, Φd, Φe, Φf, Φg, Φh, Φi, Φj, Φk, reduceIte, reduceCtorEq, if_true, if_false, Φl, Φm, Φn, Φo, true_and, and_true, false_and, and_false, true_implies, forall_const, false_implies, ne_eq, not_true_eq_false, not_false_eq_true, decide_true, decide_false, Φp, and_self, true_or, or_true, dite_true, dite_false, Φq, Φr, decide_eq_true_eq, decide_eq_false_iff_not, Φs, Φt, Φu, Φv, beq_self_eq_true, Φw, Φx, Φy, Φz, ΦA, eq_self, hP, h3_0, h3_1, h3_5, h3_25]
          exact ⟨_, _, Less.refl _, rfl, by rw [decide_eq_false (fun e => hc25 (by subst e; rfl))], rfl⟩
        · clear hX14 hY14 X14 Y14
          refine SX.skip ?_
          try simp only [Φd, Φe, Φf, Φg, Φh, Φi, Φj, if_true, if_false, reduceIte]
          refine hK12 _ _ ?_
          try clear hK12 K12
          refine SX.region ?_
          simp (maxSteps := 1000000) only [upd_app, Φa, Φb, Φc, ev, Φd, Φe, Φf, Φg, Φh, Φi, Φj, Φk, reduceIte, reduceCtorEq, if_true, if_false, Φl, Φm, Φn, Φo, true_and, and_true, false_and, and_false, true_implies, forall_const, false_implies, ne_eq, not_true_eq_false, not_false_eq_true, decide_true, decide_false, Φp, and_self, true_or, or_true, dite_true, dite_false, Φq, Φr, decide_eq_true_eq, decide_eq_false_iff_not, Φs, Φt, Φu, Φv, beq_self_eq_true, Φw, Φx, Φy, Φz, ΦA, eq_self, VCplan, less_refl_t, less_drop_t, VCops, VQops, guardVC, putVC, VC, VQ, Option.map_some, Option.map_none, ΦB, ΦC, ΦD, ΦE, ΦF, List.getElem?_cons_zero, List.getElem?_cons_succ, List.getElem?_nil, List.getElem?_toArray, List.map_cons, List.map_nil, ΦG, ΦH, ΦI, List.nil_append, ΦJ, List.append_nil, ΦK, ΦL, ΦM, List.length_nil, ΦN, ΦO, List.drop_zero, ΦP, ΦQ, List.take_zero, ΦR, Nat.reduceLT, ΦS, Nat.reduceAdd, Nat.reduceMul, Nat.reduceSub, Nat.add_zero, Nat.zero_add, Nat.mul_one, exists_eq_left, exists_eq_left', exists_const, existsSome, Nat.zero_le, Nat.le_refl, bin_add, bin_adds, hP, h3_0, h3_1, h3_5, h3_25]
          refine hK8 (k + 1) _ (L) _ (by first | exact Less.refl _ | exact Less.drop _ _ | exact Less.drops (Less.drop _ _) | exact Less.drops (Less.drops (Less.drop _ _)) | exact Less.drops (Less.drops (Less.drops (Less.drop _ _))) | exact Less.drops (Less.drops (Less.drops (Less.drops (Less.drop _ _))))) ?_ ?_
          · try dsimp only
            refine ⟨?_, ?_, ?_, ?_, ?_⟩
            · simp (maxSteps := 1000000) only [upd_app, Φa, Φb, Φc, ev, Φd, Φe, Φf, Φg, Φh, Φi, Φj, Φk, reduceIte, reduceCtorEq, if_true, if_false, Φl, Φm, Φn, Φo, true_and, and_true, false_and, and_false, true_implies, forall_const, false_implies, ne_eq, not_true_eq_false, not_false_eq_true, decide_true, decide_false, Φp, and_self, true_or, or_true, dite_true, dite_false, Φq, Φr, decide_eq_true_eq, decide_eq_false_iff_not, Φs, Φt, Φu, Φv, beq_self_eq_true, Φw, Φx, Φy, Φz, ΦA, eq_self, hP, h3_0, h3_1, h3_5, h3_25]
              rw [inc64 (by omega)]
            · simp (maxSteps := 1000000) only [upd_app, Φa, Φb, Φc, ev, Φd, Φe, Φf, Φg, Φh, Φi, Φj, Φk, reduceIte, reduceCtorEq, if_true, if_false, Φl, Φm, Φn, Φo, true_and, and_true, false_and, and_false, true_implies, forall_const, false_implies, ne_eq, not_true_eq_false, not_false_eq_true, decide_true, decide_false, Φp, and_self, true_or, or_true, dite_true, dite_false, Φq, Φr, decide_eq_true_eq, decide_eq_false_iff_not, Φs, Φt, Φu, Φv, beq_self_eq_true, Φw, Φx, Φy, Φz, ΦA, eq_self, hP, h3_0, h3_1, h3_5, h3_25]
            · simp (maxSteps := 1000000) only [upd_app, Φa, Φb, Φc, ev, Φd, Φe, Φf, Φg, Φh, Φi, Φj, Φk, reduceIte, reduceCtorEq, if_true, if_false, Φl, Φm, Φn, Φo, true_and, and_true, false_and, and_false, true_implies, forall_const, false_implies, ne_eq, not_true_eq_false, not_false_eq_true, decide_true, decide_false, Φp, and_self, true_or, or_true, dite_true, dite_false, Φq, Φr, decide_eq_true_eq, decide_eq_false_iff_not, Φs, Φt, Φu, Φv, beq_self_eq_true, Φw, Φx, Φy, Φz, ΦA, eq_self, hP, h3_0, h3_1, h3_5, h3_25]
            · rfl
            · refine ⟨by omega, fun j hj => ?_⟩
              rcases Nat.lt_succ_iff_lt_or_eq.1 hj with h | rfl
              · exact hsame j h
              · rw [hx, hy, hc25]
          · (try dsimp only); omega
      · clear hX11 hY11 X11 Y11
        refine SX.exit ?_
        try simp only [Φd, Φe, Φf, Φg, Φh, Φi, Φj, if_true, if_false, reduceIte]
        refine hK6 _ _ ?_
        try clear hK6 K6
        refine SX.seq_k fun K16 hK16 => ?_
        refine SX.region ?_
        simp (maxSteps := 1000000) only [upd_app, Φa, Φb, Φc, ev, Φd, Φe, Φf, Φg, Φh, Φi, Φj, Φk, reduceIte, reduceCtorEq, if_true, if_false, Φl, Φm, Φn, Φo, true_and, and_true, false_and, and_false, true_implies, forall_const, false_implies, ne_eq, not_true_eq_false, not_false_eq_true, decide_true, decide_false, Φp, and_self, true_or, or_true, dite_true, dite_false, Φq, Φr, decide_eq_true_eq, decide_eq_false_iff_not, Φs, Φt, Φu, Φv, beq_self_eq_true, Φw, Φx, Φy, Φz, ΦA, eq_self, VCplan, less_refl_t, less_drop_t, VCops, VQops, guardVC, putVC, VC, VQ, Option.map_some, Option.map_none, ΦB, ΦC, ΦD, ΦE, ΦF, List.getElem?_cons_zero, List.getElem?_cons_succ, List.getElem?_nil, List.getElem?_toArray, List.map_cons, List.map_nil, ΦG, ΦH, ΦI, List.nil_append, ΦJ, List.append_nil, ΦK, ΦL, ΦM, List.length_nil, ΦN, ΦO, List.drop_zero, ΦP, ΦQ, List.take_zero, ΦR, Nat.reduceLT, ΦS, Nat.reduceAdd, Nat.reduceMul, Nat.reduceSub, Nat.add_zero, Nat.zero_add, Nat.mul_one, exists_eq_left, exists_eq_left', exists_const, existsSome, Nat.zero_le, Nat.le_refl, hP, h2_5, h2_0, h2_1]
        refine hK16 _ _ ?_
        try clear hK16 K16
        refine SX.ret ?_
        simp only [Φd, Φe, Φf, Φg, Φh, Φi, Φj, if_true, if_false, reduceIte, retQ_ret]
        try simp only [res0, res1, res2, res3, upd_app, Φa, Φb, Φc, ev, Φd, Φe, Φf, Φg, Φh, Φi, Φj, Φk, reduceIte, reduceCtorEq, if_true, if_false, Φl, Φm, Φn, Φo, true_and, and_true, false_and, and_false, true_implies, forall_const, false_implies, ne_eq, not_true_eq_false, not_false_eq_true, decide_true, decide_false, Φp, and_self, true_or, or_true, dite_true, dite_false, Φq, Φr, decide_eq_true_eq, decide_eq_false_iff_not, Φs, Φt, Φu, Φv, beq_self_eq_true, Φw, Φx, Φy, Φz, ΦA, eq_self, hP, h2_5, h2_0, h2_1]
        exact ⟨_, _, Less.refl _, rfl, by rw [decide_eq_true (list_eq_of hc10 (fun j hj => hsame j (by omega)))], rfl⟩

def dotB (b : Int) (k : Nat) : Bool := decide (bits .and .u8 (b.fdiv (2 ^ (min (7 - (k : Int)).toNat 8))) 1 = 1)
def dots (b : Int) (k : Nat) : List Int := (List.range k).map fun m => if dotB b m then 35 else 46
def rowEnd (i : Nat) : List Int := if i % 8 = 7 then [10] else []
def showTo (page : List Int) (i : Nat) : List Int := (List.range i).flatMap fun j => dots (page.getD j 0) 8 ++ rowEnd j
theorem dots_succ (b : Int) (k : Nat) : dots b (k + 1) = dots b k ++ [if dotB b k then 35 else 46] := by simp [dots, List.range_succ]
theorem dots_length (b : Int) (k : Nat) : (dots b k).length = k := by simp [dots]
theorem showTo_succ (page : List Int) (i : Nat) : showTo page (i + 1) = showTo page i ++ (dots (page.getD i 0) 8 ++ rowEnd i) := by simp [showTo, List.range_succ]
theorem rowEnd_length (i : Nat) : (rowEnd i).length ≤ 1 := by unfold rowEnd; split <;> simp
theorem showTo_length (page : List Int) (i : Nat) : (showTo page i).length ≤ 9 * i := by
  induction i with
  | zero => simp [showTo]
  | succ i ih =>
    rw [showTo_succ]
    have := rowEnd_length i
    simp only [List.length_append, dots_length]
    omega
def showS (page : List Int) : ByteArray := if page.length = 256 then txt (showTo page 256) else ByteArray.empty
def showE (page : List Int) : Int := if page.length = 256 then 0 else 1
theorem dots_byte (b : Int) (k : Nat) : Byte (dots b k) := by
  intro x hx
  simp only [dots, List.mem_map] at hx
  obtain ⟨m, _, rfl⟩ := hx
  split <;> omega
theorem showTo_byte (page : List Int) (i : Nat) : Byte (showTo page i) := by
  intro x hx
  simp only [showTo, List.mem_flatMap, List.mem_append] at hx
  obtain ⟨j, _, hx | hx⟩ := hx
  · exact dots_byte _ _ x hx
  · unfold rowEnd at hx
    split at hx
    · simp at hx; omega
    · cases hx
set_option maxHeartbeats 1000000 in
set_option maxRecDepth 100000 in
theorem Show_spec {Γ : Ctx} (hP : Γ.P = Tryd.prog) {L : Hp} {va : Value} {page : List Int} (ha : SlI .u8 (Cell Γ L) va page) (hbyte : Byte page) (hm : page.length ≤ 140737488351232) :
    SCall Γ 13 #[va] L (fun v L' => v = .tuple #[.string (showS page), .int .i64 (showE page)] ∧ L' = L) := by
  obtain ⟨A, ca, rfl, hca', hA⟩ := ha
  refine SCall.enter (n := 42) (res2 2 3) (hP ▸ Tryd.func13) rfl rfl (by simp) (res2_ok rfl) ?_
  refine SX.seq_k fun K1 hK1 => ?_
  refine SX.region ?_
  simp (maxSteps := 1000000) only [upd_app, Φa, Φb, Φc, ev, Φd, Φe, Φf, Φg, Φh, Φi, Φj, Φk, reduceIte, reduceCtorEq, if_true, if_false, Φl, Φm, Φn, Φo, true_and, and_true, false_and, and_false, true_implies, forall_const, false_implies, ne_eq, not_true_eq_false, not_false_eq_true, decide_true, decide_false, Φp, and_self, true_or, or_true, dite_true, dite_false, Φq, Φr, decide_eq_true_eq, decide_eq_false_iff_not, Φs, Φt, Φu, Φv, beq_self_eq_true, Φw, Φx, Φy, Φz, ΦA, eq_self, VCplan, less_refl_t, less_drop_t, VCops, VQops, guardVC, putVC, VC, VQ, Option.map_some, Option.map_none, ΦB, ΦC, ΦD, ΦE, ΦF, List.getElem?_cons_zero, List.getElem?_cons_succ, List.getElem?_nil, List.getElem?_toArray, List.map_cons, List.map_nil, ΦG, ΦH, ΦI, List.nil_append, ΦJ, List.append_nil, ΦK, ΦL, ΦM, List.length_nil, ΦN, ΦO, List.drop_zero, ΦP, ΦQ, List.take_zero, ΦR, Nat.reduceLT, ΦS, Nat.reduceAdd, Nat.reduceMul, Nat.reduceSub, Nat.add_zero, Nat.zero_add, Nat.mul_one, exists_eq_left, exists_eq_left', exists_const, existsSome, Nat.zero_le, Nat.le_refl, hP]
  refine hK1 _ _ ?_
  try clear hK1 K1
  refine SX.seq_k fun K2 hK2 => ?_
  refine SX.seq_k fun K3 hK3 => ?_
  refine SX.region ?_
  simp (maxSteps := 1000000) only [upd_app, Φa, Φb, Φc, ev, Φd, Φe, Φf, Φg, Φh, Φi, Φj, Φk, reduceIte, reduceCtorEq, if_true, if_false, Φl, Φm, Φn, Φo, true_and, and_true, false_and, and_false, true_implies, forall_const, false_implies, ne_eq, not_true_eq_false, not_false_eq_true, decide_true, decide_false, Φp, and_self, true_or, or_true, dite_true, dite_false, Φq, Φr, decide_eq_true_eq, decide_eq_false_iff_not, Φs, Φt, Φu, Φv, beq_self_eq_true, Φw, Φx, Φy, Φz, ΦA, eq_self, VCplan, less_refl_t, less_drop_t, VCops, VQops, guardVC, putVC, VC, VQ, Option.map_some, Option.map_none, ΦB, ΦC, ΦD, ΦE, ΦF, List.getElem?_cons_zero, List.getElem?_cons_succ, List.getElem?_nil, List.getElem?_toArray, List.map_cons, List.map_nil, ΦG, ΦH, ΦI, List.nil_append, ΦJ, List.append_nil, ΦK, ΦL, ΦM, List.length_nil, ΦN, ΦO, List.drop_zero, ΦP, ΦQ, List.take_zero, ΦR, Nat.reduceLT, ΦS, Nat.reduceAdd, Nat.reduceMul, Nat.reduceSub, Nat.add_zero, Nat.zero_add, Nat.mul_one, exists_eq_left, exists_eq_left', exists_const, existsSome, Nat.zero_le, Nat.le_refl, qcall_f, call_f, len_slice, len_str, cap_slice, min_int, max_int, T.elS_25, T.szA_25, T.zr_25, Tryd.underlying25, bin_neq, bin_neqb, bin_neqs, bin_neqa, T.szA_3, T.zr_3, Tryd.underlying3, hP]
  refine hK3 _ _ ?_
  try clear hK3 K3
  refine SX.cond_k fun X4 Y4 hX4 hY4 => ?_
  simp (maxSteps := 1000000) only [upd_app, Φa, Φb, Φc, ev, Φd, Φe, Φf, Φg, Φh, Φi, Φj, Φk, reduceIte, reduceCtorEq, if_true, if_false, Φl, Φm, Φn, Φo, true_and, and_true, false_and, and_false, true_implies, forall_const, false_implies, ne_eq, not_true_eq_false, not_false_eq_true, decide_true, decide_false, Φp, and_self, true_or, or_true, dite_true, dite_false, Φq, Φr, decide_eq_true_eq, decide_eq_false_iff_not, Φs, Φt, Φu, Φv, beq_self_eq_true, Φw, Φx, Φy, Φz, ΦA, eq_self, hP, condVC]
  refine ⟨fun hc11 => hX4 ?_, fun hc11 => hY4 ?_⟩
  · clear hX4 hY4 X4 Y4
    refine SX.seq_k fun K5 hK5 => ?_
    refine SX.region ?_
    simp (maxSteps := 1000000) only [upd_app, Φa, Φb, Φc, ev, Φd, Φe, Φf, Φg, Φh, Φi, Φj, Φk, reduceIte, reduceCtorEq, if_true, if_false, Φl, Φm, Φn, Φo, true_and, and_true, false_and, and_false, true_implies, forall_const, false_implies, ne_eq, not_true_eq_false, not_false_eq_true, decide_true, decide_false, Φp, and_self, true_or, or_true, dite_true, dite_false, Φq, Φr, decide_eq_true_eq, decide_eq_false_iff_not, Φs, Φt, Φu, Φv, beq_self_eq_true, Φw, Φx, Φy, Φz, ΦA, eq_self, VCplan, less_refl_t, less_drop_t, VCops, VQops, guardVC, putVC, VC, VQ, Option.map_some, Option.map_none, ΦB, ΦC, ΦD, ΦE, ΦF, List.getElem?_cons_zero, List.getElem?_cons_succ, List.getElem?_nil, List.getElem?_toArray, List.map_cons, List.map_nil, ΦG, ΦH, ΦI, List.nil_append, ΦJ, List.append_nil, ΦK, ΦL, ΦM, List.length_nil, ΦN, ΦO, List.drop_zero, ΦP, ΦQ, List.take_zero, ΦR, Nat.reduceLT, ΦS, Nat.reduceAdd, Nat.reduceMul, Nat.reduceSub, Nat.add_zero, Nat.zero_add, Nat.mul_one, exists_eq_left, exists_eq_left', exists_const, existsSome, Nat.zero_le, Nat.le_refl, hP]
    refine hK5 _ _ ?_
    try clear hK5 K5
    refine SX.ret ?_
    simp only [Φd, Φe, Φf, Φg, Φh, Φi, Φj, if_true, if_false, reduceIte, retQ_ret]
    try simp only [res0, res1, res2, res3, upd_app, Φa, Φb, Φc, ev, Φd, Φe, Φf, Φg, Φh, Φi, Φj, Φk, reduceIte, reduceCtorEq, if_true, if_false, Φl, Φm, Φn, Φo, true_and, and_true, false_and, and_false, true_implies, forall_const, false_implies, ne_eq, not_true_eq_false, not_false_eq_true, decide_true, decide_false, Φp, and_self, true_or, or_true, dite_true, dite_false, Φq, Φr, decide_eq_true_eq, decide_eq_false_iff_not, Φs, Φt, Φu, Φv, beq_self_eq_true, Φw, Φx, Φy, Φz, ΦA, eq_self, hP]
    exact ⟨_, L, (by first | exact Less.refl _ | exact Less.drop _ _ | exact Less.drops (Less.drop _ _) | exact Less.drops (Less.drops (Less.drop _ _)) | exact Less.drops (Less.drops (Less.drops (Less.drop _ _))) | exact Less.drops (Less.drops (Less.drops (Less.drops (Less.drop _ _))))), rfl, by rw [showS, showE, if_neg (by omega), if_neg (by omega)]; rfl, rfl⟩
  · clear hX4 hY4 X4 Y4
    have hlen256 : page.length = 256 := by omega
    refine SX.skip ?_
    try simp only [Φd, Φe, Φf, Φg, Φh, Φi, Φj, if_true, if_false, reduceIte]
    refine hK2 _ _ ?_
    try clear hK2 K2
    refine SX.seq_k fun K6 hK6 => ?_
    refine SX.region ?_
    simp (maxSteps := 1000000) only [upd_app, Φa, Φb, Φc, ev, Φd, Φe, Φf, Φg, Φh, Φi, Φj, Φk, reduceIte, reduceCtorEq, if_true, if_false, Φl, Φm, Φn, Φo, true_and, and_true, false_and, and_false, true_implies, forall_const, false_implies, ne_eq, not_true_eq_false, not_false_eq_true, decide_true, decide_false, Φp, and_self, true_or, or_true, dite_true, dite_false, Φq, Φr, decide_eq_true_eq, decide_eq_false_iff_not, Φs, Φt, Φu, Φv, beq_self_eq_true, Φw, Φx, Φy, Φz, ΦA, eq_self, VCplan, less_refl_t, less_drop_t, VCops, VQops, guardVC, putVC, VC, VQ, Option.map_some, Option.map_none, ΦB, ΦC, ΦD, ΦE, ΦF, List.getElem?_cons_zero, List.getElem?_cons_succ, List.getElem?_nil, List.getElem?_toArray, List.map_cons, List.map_nil, ΦG, ΦH, ΦI, List.nil_append, ΦJ, List.append_nil, ΦK, ΦL, ΦM, List.length_nil, ΦN, ΦO, List.drop_zero, ΦP, ΦQ, List.take_zero, ΦR, Nat.reduceLT, ΦS, Nat.reduceAdd, Nat.reduceMul, Nat.reduceSub, Nat.add_zero, Nat.zero_add, Nat.mul_one, exists_eq_left, exists_eq_left', exists_const, existsSome, Nat.zero_le, Nat.le_refl, hP]
    refine hK6 _ _ ?_
    try clear hK6 K6
    refine SX.seq_k fun K7 hK7 => ?_
    refine SX.seq_k fun K8 hK8 => ?_
    refine SX.region ?_
    simp (maxSteps := 1000000) only [upd_app, Φa, Φb, Φc, ev, Φd, Φe, Φf, Φg, Φh, Φi, Φj, Φk, reduceIte, reduceCtorEq, if_true, if_false, Φl, Φm, Φn, Φo, true_and, and_true, false_and, and_false, true_implies, forall_const, false_implies, ne_eq, not_true_eq_false, not_false_eq_true, decide_true, decide_false, Φp, and_self, true_or, or_true, dite_true, dite_false, Φq, Φr, decide_eq_true_eq, decide_eq_false_iff_not, Φs, Φt, Φu, Φv, beq_self_eq_true, Φw, Φx, Φy, Φz, ΦA, eq_self, VCplan, less_refl_t, less_drop_t, VCops, VQops, guardVC, putVC, VC, VQ, Option.map_some, Option.map_none, ΦB, ΦC, ΦD, ΦE, ΦF, List.getElem?_cons_zero, List.getElem?_cons_succ, List.getElem?_nil, List.getElem?_toArray, List.map_cons, List.map_nil, ΦG, ΦH, ΦI, List.nil_append, ΦJ, List.append_nil, ΦK, ΦL, ΦM, List.length_nil, ΦN, ΦO, List.drop_zero, ΦP, ΦQ, List.take_zero, ΦR, Nat.reduceLT, ΦS, Nat.reduceAdd, Nat.reduceMul, Nat.reduceSub, Nat.add_zero, Nat.zero_add, Nat.mul_one, exists_eq_left, exists_eq_left', exists_const, existsSome, Nat.zero_le, Nat.le_refl, qcall_f, call_f, len_slice, len_str, cap_slice, min_int, max_int, T.elS_25, T.szA_25, T.zr_25, Tryd.underlying25, hP]
    refine hK8 _ _ ?_
    try clear hK8 K8
    refine SX.live [4, 12, 13, 14] (fun T1 hT1 => ?_)
    simp only [forall_mem_cons', forall_mem_nil', upd_app, Φa, Φb, Φc, ev, Φd, Φe, Φf, Φg, Φh, Φi, Φj, Φk, reduceIte, reduceCtorEq, if_true, if_false, Φl, Φm, Φn, Φo, true_and, and_true, false_and, and_false, true_implies, forall_const, false_implies, ne_eq, not_true_eq_false, not_false_eq_true, decide_true, decide_false, Φp, and_self, true_or, or_true, dite_true, dite_false, Φq, Φr, decide_eq_true_eq, decide_eq_false_iff_not, Φs, Φt, Φu, Φv, beq_self_eq_true, Φw, Φx, Φy, Φz, ΦA, eq_self, hP] at hT1
    obtain ⟨h1_4, h1_12, h1_13, h1_14⟩ := hT1
    refine SX.block ?_
    refine SX.less (Less.none _) ?_
    refine SX.live [4, 12, 13, 14] (fun T2 hT2 => ?_)
    simp only [forall_mem_cons', forall_mem_nil', upd_app, Φa, Φb, Φc, ev, Φd, Φe, Φf, Φg, Φh, Φi, Φj, Φk, reduceIte, reduceCtorEq, if_true, if_false, Φl, Φm, Φn, Φo, true_and, and_true, false_and, and_false, true_implies, forall_const, false_implies, ne_eq, not_true_eq_false, not_false_eq_true, decide_true, decide_false, Φp, and_self, true_or, or_true, dite_true, dite_false, Φq, Φr, decide_eq_true_eq, decide_eq_false_iff_not, Φs, Φt, Φu, Φv, beq_self_eq_true, Φw, Φx, Φy, Φz, ΦA, eq_self, hP, h1_4, h1_12, h1_13, h1_14] at hT2
    obtain ⟨h2_4, h2_12, h2_13, h2_14⟩ := hT2
    clear h1_4 h1_12 h1_13 h1_14 T1
    refine SX.loop_k (fun (ss : (Nat) × (Value) × (Slot)) T L' => (fun (i : Nat) (v : Value) (s : Slot) => T 4 = v ∧ T 14 = .int .i64 (i : Int) ∧ T 12 = T2 12 ∧ T 13 = T2 13 ∧ L' = s :: L ∧ (i ≤ 256 ∧ RowI .u8 5 v (showTo page i) s)) (ss.1) (ss.2.1) (ss.2.2)) (fun (ss : (Nat) × (Value) × (Slot)) => (fun (i : Nat) (v : Value) (s : Slot) => 256 - i) (ss.1) (ss.2.1) (ss.2.2)) (0, .slice none 0 0, none) ?_ ?_
    · try dsimp only
      refine ⟨?_, ?_, ?_, ?_, ?_, ?_⟩
      · first | exact h2_4 | (rw [h2_4]; rfl) | (rw [h2_4]; simp; done)
      · first | exact h2_14 | (rw [h2_14]; rfl) | (rw [h2_14]; simp; done)
      · rfl
      · rfl
      · rfl
      · exact ⟨Nat.zero_le _, RowI.nil _ _⟩
    · intro ss T3 L3 hI K9 hK9
      obtain ⟨i, v, s⟩ := ss
      try dsimp only at hI hK9
      simp only [h2_12, h2_13] at hI hK9
      obtain ⟨h3_4, h3_14, h3_12, h3_13, hL3, hi, hrow⟩ := hI
      replace hL3 := hL3.symm
      subst hL3
      clear h2_4 h2_12 h2_13 h2_14 T2
      refine SX.seq_k fun K10 hK10 => ?_
      refine SX.region ?_
      simp (maxSteps := 1000000) only [upd_app, Φa, Φb, Φc, ev, Φd, Φe, Φf, Φg, Φh, Φi, Φj, Φk, reduceIte, reduceCtorEq, if_true, if_false, Φl, Φm, Φn, Φo, true_and, and_true, false_and, and_false, true_implies, forall_const, false_implies, ne_eq, not_true_eq_false, not_false_eq_true, decide_true, decide_false, Φp, and_self, true_or, or_true, dite_true, dite_false, Φq, Φr, decide_eq_true_eq, decide_eq_false_iff_not, Φs, Φt, Φu, Φv, beq_self_eq_true, Φw, Φx, Φy, Φz, ΦA, eq_self, VCplan, less_refl_t, less_drop_t, VCops, VQops, guardVC, putVC, VC, VQ, Option.map_some, Option.map_none, ΦB, ΦC, ΦD, ΦE, ΦF, List.getElem?_cons_zero, List.getElem?_cons_succ, List.getElem?_nil, List.getElem?_toArray, List.map_cons, List.map_nil, ΦG, ΦH, ΦI, List.nil_append, ΦJ, List.append_nil, ΦK, ΦL, ΦM, List.length_nil, ΦN, ΦO, List.drop_zero, ΦP, ΦQ, List.take_zero, ΦR, Nat.reduceLT, ΦS, Nat.reduceAdd, Nat.reduceMul, Nat.reduceSub, Nat.add_zero, Nat.zero_add, Nat.mul_one, exists_eq_left, exists_eq_left', exists_const, existsSome, Nat.zero_le, Nat.le_refl, bin_lss, hP, h3_4, h3_14, h3_12, h3_13]
      refine hK10 _ _ ?_
      try clear hK10 K10
      refine SX.seq_k fun K11 hK11 => ?_
      refine SX.cond_k fun X12 Y12 hX12 hY12 => ?_
      simp (maxSteps := 1000000) only [upd_app, Φa, Φb, Φc, ev, Φd, Φe, Φf, Φg, Φh, Φi, Φj, Φk, reduceIte, reduceCtorEq, if_true, if_false, Φl, Φm, Φn, Φo, true_and, and_true, false_and, and_false, true_implies, forall_const, false_implies, ne_eq, not_true_eq_false, not_false_eq_true, decide_true, decide_false, Φp, and_self, true_or, or_true, dite_true, dite_false, Φq, Φr, decide_eq_true_eq, decide_eq_false_iff_not, Φs, Φt, Φu, Φv, beq_self_eq_true, Φw, Φx, Φy, Φz, ΦA, eq_self, hP, h3_4, h3_14, h3_12, h3_13, condVC]
      refine ⟨fun hc15 => hX12 ?_, fun hc15 => hY12 ?_⟩
      · clear hX12 hY12 X12 Y12
        refine SX.skip ?_
        try simp only [Φd, Φe, Φf, Φg, Φh, Φi, Φj, if_true, if_false, reduceIte]
        refine hK11 _ _ ?_
        try clear hK11 K11
        refine SX.live [4, 12, 13, 14] (fun T4 hT4 => ?_)
        simp only [forall_mem_cons', forall_mem_nil', upd_app, Φa, Φb, Φc, ev, Φd, Φe, Φf, Φg, Φh, Φi, Φj, Φk, reduceIte, reduceCtorEq, if_true, if_false, Φl, Φm, Φn, Φo, true_and, and_true, false_and, and_false, true_implies, forall_const, false_implies, ne_eq, not_true_eq_false, not_false_eq_true, decide_true, decide_false, Φp, and_self, true_or, or_true, dite_true, dite_false, Φq, Φr, decide_eq_true_eq, decide_eq_false_iff_not, Φs, Φt, Φu, Φv, beq_self_eq_true, Φw, Φx, Φy, Φz, ΦA, eq_self, hP, h3_4, h3_14, h3_12, h3_13] at hT4
        obtain ⟨h4_4, h4_12, h4_13, h4_14⟩ := hT4
        clear h3_4 h3_14 h3_12 h3_13 T3
        refine SX.join (fun (ss : (Value) × (Slot)) T L' => (fun (v : Value) (s : Slot) => T 4 = v ∧ T 12 = T4 12 ∧ T 13 = T4 13 ∧ T 14 = T4 14 ∧ L' = s :: L ∧ (RowI .u8 5 v (showTo page (i + 1)) s)) (ss.1) (ss.2)) (fun K13 hK13 => ?_) ?_
        · simp only [h4_12, h4_13, h4_14] at hK13
          refine SX.block ?_
          refine SX.seq_k fun K14 hK14 => ?_
          have hx : page[i]? = some page[i] := List.getElem?_eq_getElem (by omega)
          obtain ⟨a, ha, hca⟩ := hA i _ hx
          simp only [Nat.mul_one] at hca
          have hb := hbyte page[i] (List.getElem_mem (by omega))
          have hgd : page.getD i 0 = page[i] := by simp [List.getD, hx]
          generalize page[i] = b at hca hb hgd hx
          refine SX.region ?_
          simp (maxSteps := 1000000) only [upd_app, Φa, Φb, Φc, ev, Φd, Φe, Φf, Φg, Φh, Φi, Φj, Φk, reduceIte, reduceCtorEq, if_true, if_false, Φl, Φm, Φn, Φo, true_and, and_true, false_and, and_false, true_implies, forall_const, false_implies, ne_eq, not_true_eq_false, not_false_eq_true, decide_true, decide_false, Φp, and_self, true_or, or_true, dite_true, dite_false, Φq, Φr, decide_eq_true_eq, decide_eq_false_iff_not, Φs, Φt, Φu, Φv, beq_self_eq_true, Φw, Φx, Φy, Φz, ΦA, eq_self, VCplan, less_refl_t, less_drop_t, VCops, VQops, guardVC, putVC, VC, VQ, Option.map_some, Option.map_none, ΦB, ΦC, ΦD, ΦE, ΦF, List.getElem?_cons_zero, List.getElem?_cons_succ, List.getElem?_nil, List.getElem?_toArray, List.map_cons, List.map_nil, ΦG, ΦH, ΦI, List.nil_append, ΦJ, List.append_nil, ΦK, ΦL, ΦM, List.length_nil, ΦN, ΦO, List.drop_zero, ΦP, ΦQ, List.take_zero, ΦR, Nat.reduceLT, ΦS, Nat.reduceAdd, Nat.reduceMul, Nat.reduceSub, Nat.add_zero, Nat.zero_add, Nat.mul_one, exists_eq_left, exists_eq_left', exists_const, existsSome, Nat.zero_le, Nat.le_refl, ia_slice, ia_arr, Addr.add_lit, Addr.add_zero', add_addS, Int.toNat_natCast, Int.toNat_zero, Int.toNat_one, Int.reduceToNat, T.elS_25, T.szA_25, T.zr_25, Tryd.underlying25, ld_ptr, loadVC, loadN, T.szA_5, T.zr_5, Tryd.underlying5, hP, h4_4, h4_12, h4_13, h4_14]
          refine ⟨⟨by omega, by omega⟩, a, ha, _, Cell.cons _ hca, ?_⟩
          refine hK14 _ _ ?_
          try clear hK14 K14
          refine SX.seq_k fun K15 hK15 => ?_
          refine SX.seq_k fun K16 hK16 => ?_
          refine SX.region ?_
          simp (maxSteps := 1000000) only [upd_app, Φa, Φb, Φc, ev, Φd, Φe, Φf, Φg, Φh, Φi, Φj, Φk, reduceIte, reduceCtorEq, if_true, if_false, Φl, Φm, Φn, Φo, true_and, and_true, false_and, and_false, true_implies, forall_const, false_implies, ne_eq, not_true_eq_false, not_false_eq_true, decide_true, decide_false, Φp, and_self, true_or, or_true, dite_true, dite_false, Φq, Φr, decide_eq_true_eq, decide_eq_false_iff_not, Φs, Φt, Φu, Φv, beq_self_eq_true, Φw, Φx, Φy, Φz, ΦA, eq_self, VCplan, less_refl_t, less_drop_t, VCops, VQops, guardVC, putVC, VC, VQ, Option.map_some, Option.map_none, ΦB, ΦC, ΦD, ΦE, ΦF, List.getElem?_cons_zero, List.getElem?_cons_succ, List.getElem?_nil, List.getElem?_toArray, List.map_cons, List.map_nil, ΦG, ΦH, ΦI, List.nil_append, ΦJ, List.append_nil, ΦK, ΦL, ΦM, List.length_nil, ΦN, ΦO, List.drop_zero, ΦP, ΦQ, List.take_zero, ΦR, Nat.reduceLT, ΦS, Nat.reduceAdd, Nat.reduceMul, Nat.reduceSub, Nat.add_zero, Nat.zero_add, Nat.mul_one, exists_eq_left, exists_eq_left', exists_const, existsSome, Nat.zero_le, Nat.le_refl, hP, h4_4, h4_12, h4_13, h4_14]
          refine hK16 _ _ ?_
          try clear hK16 K16
          refine SX.block ?_
          refine SX.live [4, 5, 6, 12, 13, 14, 19] (fun T5 hT5 => ?_)
          simp only [forall_mem_cons', forall_mem_nil', upd_app, Φa, Φb, Φc, ev, Φd, Φe, Φf, Φg, Φh, Φi, Φj, Φk, reduceIte, reduceCtorEq, if_true, if_false, Φl, Φm, Φn, Φo, true_and, and_true, false_and, and_false, true_implies, forall_const, false_implies, ne_eq, not_true_eq_false, not_false_eq_true, decide_true, decide_false, Φp, and_self, true_or, or_true, dite_true, dite_false, Φq, Φr, decide_eq_true_eq, decide_eq_false_iff_not, Φs, Φt, Φu, Φv, beq_self_eq_true, Φw, Φx, Φy, Φz, ΦA, eq_self, hP, h4_4, h4_12, h4_13, h4_14] at hT5
          obtain ⟨h5_4, h5_5, h5_6, h5_12, h5_13, h5_14, h5_19⟩ := hT5
          clear h4_4 h4_12 h4_13 h4_14 T4
          refine SX.loop_k (fun (ss : (Nat) × (Value) × (Slot)) T L' => (fun (k : Nat) (v : Value) (s : Slot) => T 4 = v ∧ T 19 = .int .i64 (k : Int) ∧ T 5 = T5 5 ∧ T 6 = T5 6 ∧ T 12 = T5 12 ∧ T 13 = T5 13 ∧ T 14 = T5 14 ∧ L' = s :: L ∧ (k ≤ 8 ∧ RowI .u8 5 v (showTo page i ++ dots b k) s)) (ss.1) (ss.2.1) (ss.2.2)) (fun (ss : (Nat) × (Value) × (Slot)) => (fun (k : Nat) (v : Value) (s : Slot) => 8 - k) (ss.1) (ss.2.1) (ss.2.2)) (0, v, s) ?_ ?_
          · try dsimp only
            refine ⟨?_, ?_, ?_, ?_, ?_, ?_, ?_, ?_, ?_⟩
            · first | exact h5_4 | (rw [h5_4]; rfl) | (rw [h5_4]; simp; done)
            · first | exact h5_19 | (rw [h5_19]; rfl) | (rw [h5_19]; simp; done)
            · rfl
            · rfl
            · rfl
            · rfl
            · rfl
            · rfl
            · refine ⟨Nat.zero_le _, ?_⟩
              simpa [dots] using hrow
          · intro ss T6 L6 hI K17 hK17
            obtain ⟨k, v, s⟩ := ss
            try dsimp only at hI hK17
            simp only [h5_5, h5_6, h5_12, h5_13, h5_14] at hI hK17
            obtain ⟨h6_4, h6_19, h6_5, h6_6, h6_12, h6_13, h6_14, hL6, hk, hrow⟩ := hI
            replace hL6 := hL6.symm
            subst hL6
            clear h5_4 h5_5 h5_6 h5_12 h5_13 h5_14 h5_19 T5
            have hlen := showTo_length page i
            refine SX.seq_k fun K18 hK18 => ?_
            refine SX.region ?_
            simp (maxSteps := 1000000) only [upd_app, Φa, Φb, Φc, ev, Φd, Φe, Φf, Φg, Φh, Φi, Φj, Φk, reduceIte, reduceCtorEq, if_true, if_false, Φl, Φm, Φn, Φo, true_and, and_true, false_and, and_false, true_implies, forall_const, false_implies, ne_eq, not_true_eq_false, not_false_eq_true, decide_true, decide_false, Φp, and_self, true_or, or_true, dite_true, dite_false, Φq, Φr, decide_eq_true_eq, decide_eq_false_iff_not, Φs, Φt, Φu, Φv, beq_self_eq_true, Φw, Φx, Φy, Φz, ΦA, eq_self, VCplan, less_refl_t, less_drop_t, VCops, VQops, guardVC, putVC, VC, VQ, Option.map_some, Option.map_none, ΦB, ΦC, ΦD, ΦE, ΦF, List.getElem?_cons_zero, List.getElem?_cons_succ, List.getElem?_nil, List.getElem?_toArray, List.map_cons, List.map_nil, ΦG, ΦH, ΦI, List.nil_append, ΦJ, List.append_nil, ΦK, ΦL, ΦM, List.length_nil, ΦN, ΦO, List.drop_zero, ΦP, ΦQ, List.take_zero, ΦR, Nat.reduceLT, ΦS, Nat.reduceAdd, Nat.reduceMul, Nat.reduceSub, Nat.add_zero, Nat.zero_add, Nat.mul_one, exists_eq_left, exists_eq_left', exists_const, existsSome, Nat.zero_le, Nat.le_refl, bin_lss, hP, h6_4, h6_19, h6_5, h6_6, h6_12, h6_13, h6_14]
            refine hK18 _ _ ?_
            try clear hK18 K18
            refine SX.seq_k fun K19 hK19 => ?_
            refine SX.cond_k fun X20 Y20 hX20 hY20 => ?_
            simp (maxSteps := 1000000) only [upd_app, Φa, Φb, Φc, ev, Φd, Φe, Φf, Φg, Φh, Φi, Φj, Φk, reduceIte, reduceCtorEq, if_true, if_false, Φl, Φm, Φn, Φo, true_and, and_true, false_and, and_false, true_implies, forall_const, false_implies, ne_eq, not_true_eq_false, not_false_eq_true, decide_true, decide_false, Φp, and_self, true_or, or_true, dite_true, dite_false, Φq, Φr, decide_eq_true_eq, decide_eq_false_iff_not, Φs, Φt, Φu, Φv, beq_self_eq_true, Φw, Φx, Φy, Φz, ΦA, eq_self, hP, h6_4, h6_19, h6_5, h6_6, h6_12, h6_13, h6_14, condVC]
            refine ⟨fun hc20 => hX20 ?_, fun hc20 => hY20 ?_⟩
            · clear hX20 hY20 X20 Y20
              refine SX.skip ?_
              try simp only [Φd, Φe, Φf, Φg, Φh, Φi, Φj, if_true, if_false, reduceIte]
              refine hK19 _ _ ?_
              try clear hK19 K19
              refine SX.seq_k fun K21 hK21 => ?_
              refine SX.block ?_
              refine SX.seq_k fun K22 hK22 => ?_
              refine SX.region ?_
              simp (maxSteps := 1000000) only [upd_app, Φa, Φb, Φc, ev, Φd, Φe, Φf, Φg, Φh, Φi, Φj, Φk, reduceIte, reduceCtorEq, if_true, if_false, Φl, Φm, Φn, Φo, true_and, and_true, false_and, and_false, true_implies, forall_const, false_implies, ne_eq, not_true_eq_false, not_false_eq_true, decide_true, decide_false, Φp, and_self, true_or, or_true, dite_true, dite_false, Φq, Φr, decide_eq_true_eq, decide_eq_false_iff_not, Φs, Φt, Φu, Φv, beq_self_eq_true, Φw, Φx, Φy, Φz, ΦA, eq_self, VCplan, less_refl_t, less_drop_t, VCops, VQops, guardVC, putVC, VC, VQ, Option.map_some, Option.map_none, ΦB, ΦC, ΦD, ΦE, ΦF, List.getElem?_cons_zero, List.getElem?_cons_succ, List.getElem?_nil, List.getElem?_toArray, List.map_cons, List.map_nil, ΦG, ΦH, ΦI, List.nil_append, ΦJ, List.append_nil, ΦK, ΦL, ΦM, List.length_nil, ΦN, ΦO, List.drop_zero, ΦP, ΦQ, List.take_zero, ΦR, Nat.reduceLT, ΦS, Nat.reduceAdd, Nat.reduceMul, Nat.reduceSub, Nat.add_zero, Nat.zero_add, Nat.mul_one, exists_eq_left, exists_eq_left', exists_const, existsSome, Nat.zero_le, Nat.le_refl, hP, h6_4, h6_19, h6_5, h6_6, h6_12, h6_13, h6_14]
              refine hK22 _ _ ?_
              try clear hK22 K22
              refine SX.seq_k fun K23 hK23 => ?_
              refine SX.region ?_
              simp (maxSteps := 1000000) only [upd_app, Φa, Φb, Φc, ev, Φd, Φe, Φf, Φg, Φh, Φi, Φj, Φk, reduceIte, reduceCtorEq, if_true, if_false, Φl, Φm, Φn, Φo, true_and, and_true, false_and, and_false, true_implies, forall_const, false_implies, ne_eq, not_true_eq_false, not_false_eq_true, decide_true, decide_false, Φp, and_self, true_or, or_true, dite_true, dite_false, Φq, Φr, decide_eq_true_eq, decide_eq_false_iff_not, Φs, Φt, Φu, Φv, beq_self_eq_true, Φw, Φx, Φy, Φz, ΦA, eq_self, VCplan, less_refl_t, less_drop_t, VCops, VQops, guardVC, putVC, VC, VQ, Option.map_some, Option.map_none, ΦB, ΦC, ΦD, ΦE, ΦF, List.getElem?_cons_zero, List.getElem?_cons_succ, List.getElem?_nil, List.getElem?_toArray, List.map_cons, List.map_nil, ΦG, ΦH, ΦI, List.nil_append, ΦJ, List.append_nil, ΦK, ΦL, ΦM, List.length_nil, ΦN, ΦO, List.drop_zero, ΦP, ΦQ, List.take_zero, ΦR, Nat.reduceLT, ΦS, Nat.reduceAdd, Nat.reduceMul, Nat.reduceSub, Nat.add_zero, Nat.zero_add, Nat.mul_one, exists_eq_left, exists_eq_left', exists_const, existsSome, Nat.zero_le, Nat.le_refl, hP, h6_4, h6_19, h6_5, h6_6, h6_12, h6_13, h6_14]
              refine hK23 _ _ ?_
              try clear hK23 K23
              refine SX.live [4, 5, 6, 7, 8, 12, 13, 14, 19] (fun T7 hT7 => ?_)
              simp only [forall_mem_cons', forall_mem_nil', upd_app, Φa, Φb, Φc, ev, Φd, Φe, Φf, Φg, Φh, Φi, Φj, Φk, reduceIte, reduceCtorEq, if_true, if_false, Φl, Φm, Φn, Φo, true_and, and_true, false_and, and_false, true_implies, forall_const, false_implies, ne_eq, not_true_eq_false, not_false_eq_true, decide_true, decide_false, Φp, and_self, true_or, or_true, dite_true, dite_false, Φq, Φr, decide_eq_true_eq, decide_eq_false_iff_not, Φs, Φt, Φu, Φv, beq_self_eq_true, Φw, Φx, Φy, Φz, ΦA, eq_self, hP, h6_4, h6_19, h6_5, h6_6, h6_12, h6_13, h6_14] at hT7
              obtain ⟨h7_4, h7_5, h7_6, h7_7, h7_8, h7_12, h7_13, h7_14, h7_19⟩ := hT7
              clear h6_4 h6_19 h6_5 h6_6 h6_12 h6_13 h6_14 T6
              refine SX.join (fun (ss : Unit) T L' => T 8 = .int .u8 (if dotB b k then 35 else 46) ∧ T 4 = T7 4 ∧ T 5 = T7 5 ∧ T 6 = T7 6 ∧ T 12 = T7 12 ∧ T 13 = T7 13 ∧ T 14 = T7 14 ∧ T 19 = T7 19 ∧ L' = s :: L ∧ (True)) (fun K24 hK24 => ?_) ?_
              · simp only [h7_4, h7_5, h7_6, h7_12, h7_13, h7_14, h7_19] at hK24
                refine SX.seq_k fun K25 hK25 => ?_
                have hw : IntKind.i64.wrap (7 - (k : Int)) = 7 - k := w64 (by omega)
                refine SX.region ?_
                simp (maxSteps := 1000000) only [upd_app, Φa, Φb, Φc, ev, Φd, Φe, Φf, Φg, Φh, Φi, Φj, Φk, reduceIte, reduceCtorEq, if_true, if_false, Φl, Φm, Φn, Φo, true_and, and_true, false_and, and_false, true_implies, forall_const, false_implies, ne_eq, not_true_eq_false, not_false_eq_true, decide_true, decide_false, Φp, and_self, true_or, or_true, dite_true, dite_false, Φq, Φr, decide_eq_true_eq, decide_eq_false_iff_not, Φs, Φt, Φu, Φv, beq_self_eq_true, Φw, Φx, Φy, Φz, ΦA, eq_self, VCplan, less_refl_t, less_drop_t, VCops, VQops, guardVC, putVC, VC, VQ, Option.map_some, Option.map_none, ΦB, ΦC, ΦD, ΦE, ΦF, List.getElem?_cons_zero, List.getElem?_cons_succ, List.getElem?_nil, List.getElem?_toArray, List.map_cons, List.map_nil, ΦG, ΦH, ΦI, List.nil_append, ΦJ, List.append_nil, ΦK, ΦL, ΦM, List.length_nil, ΦN, ΦO, List.drop_zero, ΦP, ΦQ, List.take_zero, ΦR, Nat.reduceLT, ΦS, Nat.reduceAdd, Nat.reduceMul, Nat.reduceSub, Nat.add_zero, Nat.zero_add, Nat.mul_one, exists_eq_left, exists_eq_left', exists_const, existsSome, Nat.zero_le, Nat.le_refl, bin_sub, bin_shr, kbits_u8, kbits_u16, kbits_i64, kbits_u64, bin_and, bin_eql, bin_eqlb, bin_eqls, bin_eqla, T.szA_5, T.zr_5, Tryd.underlying5, hP, h7_4, h7_5, h7_6, h7_7, h7_8, h7_12, h7_13, h7_14, h7_19, hw]
                refine ⟨by omega, ?_⟩
                refine hK25 _ _ ?_
                try clear hK25 K25
                refine SX.cond_k fun X26 Y26 hX26 hY26 => ?_
                simp (maxSteps := 1000000) only [upd_app, Φa, Φb, Φc, ev, Φd, Φe, Φf, Φg, Φh, Φi, Φj, Φk, reduceIte, reduceCtorEq, if_true, if_false, Φl, Φm, Φn, Φo, true_and, and_true, false_and, and_false, true_implies, forall_const, false_implies, ne_eq, not_true_eq_false, not_false_eq_true, decide_true, decide_false, Φp, and_self, true_or, or_true, dite_true, dite_false, Φq, Φr, decide_eq_true_eq, decide_eq_false_iff_not, Φs, Φt, Φu, Φv, beq_self_eq_true, Φw, Φx, Φy, Φz, ΦA, eq_self, hP, h7_4, h7_5, h7_6, h7_7, h7_8, h7_12, h7_13, h7_14, h7_19, condVC]
                refine ⟨fun hc27 => hX26 ?_, fun hc27 => hY26 ?_⟩
                · clear hX26 hY26 X26 Y26
                  refine SX.region ?_
                  simp (maxSteps := 1000000) only [upd_app, Φa, Φb, Φc, ev, Φd, Φe, Φf, Φg, Φh, Φi, Φj, Φk, reduceIte, reduceCtorEq, if_true, if_false, Φl, Φm, Φn, Φo, true_and, and_true, false_and, and_false, true_implies, forall_const, false_implies, ne_eq, not_true_eq_false, not_false_eq_true, decide_true, decide_false, Φp, and_self, true_or, or_true, dite_true, dite_false, Φq, Φr, decide_eq_true_eq, decide_eq_false_iff_not, Φs, Φt, Φu, Φv, beq_self_eq_true, Φw, Φx, Φy, Φz, ΦA, eq_self, VCplan, less_refl_t, less_drop_t, VCops, VQops, guardVC, putVC, VC, VQ, Option.map_some, Option.map_none, ΦB, ΦC, ΦD, ΦE, ΦF, List.getElem?_cons_zero, List.getElem?_cons_succ, List.getElem?_nil, List.getElem?_toArray, List.map_cons, List.map_nil, ΦG, ΦH, ΦI, List.nil_append, ΦJ, List.append_nil, ΦK, ΦL, ΦM, List.length_nil, ΦN, ΦO, List.drop_zero, ΦP, ΦQ, List.take_zero, ΦR, Nat.reduceLT, ΦS, Nat.reduceAdd, Nat.reduceMul, Nat.reduceSub, Nat.add_zero, Nat.zero_add, Nat.mul_one, exists_eq_left, exists_eq_left', exists_const, existsSome, Nat.zero_le, Nat.le_refl, hP, h7_4, h7_5, h7_6, h7_7, h7_8, h7_12, h7_13, h7_14, h7_19]
                  refine hK24 () _ (s :: L) _ (by first | exact Less.refl _ | exact Less.drop _ _ | exact Less.drops (Less.drop _ _) | exact Less.drops (Less.drops (Less.drop _ _)) | exact Less.drops (Less.drops (Less.drops (Less.drop _ _))) | exact Less.drops (Less.drops (Less.drops (Less.drops (Less.drop _ _))))) ?_
                  try dsimp only
                  refine ⟨?_, ?_, ?_, ?_, ?_, ?_, ?_, ?_, ?_, ?_⟩
                  · simp (maxSteps := 1000000) only [upd_app, Φa, Φb, Φc, ev, Φd, Φe, Φf, Φg, Φh, Φi, Φj, Φk, reduceIte, reduceCtorEq, if_true, if_false, Φl, Φm, Φn, Φo, true_and, and_true, false_and, and_false, true_implies, forall_const, false_implies, ne_eq, not_true_eq_false, not_false_eq_true, decide_true, decide_false, Φp, and_self, true_or, or_true, dite_true, dite_false, Φq, Φr, decide_eq_true_eq, decide_eq_false_iff_not, Φs, Φt, Φu, Φv, beq_self_eq_true, Φw, Φx, Φy, Φz, ΦA, eq_self, hP, h7_4, h7_5, h7_6, h7_7, h7_8, h7_12, h7_13, h7_14, h7_19]
                    rw [if_pos (by unfold dotB; exact decide_eq_true hc27)]
                  · simp (maxSteps := 1000000) only [upd_app, Φa, Φb, Φc, ev, Φd, Φe, Φf, Φg, Φh, Φi, Φj, Φk, reduceIte, reduceCtorEq, if_true, if_false, Φl, Φm, Φn, Φo, true_and, and_true, false_and, and_false, true_implies, forall_const, false_implies, ne_eq, not_true_eq_false, not_false_eq_true, decide_true, decide_false, Φp, and_self, true_or, or_true, dite_true, dite_false, Φq, Φr, decide_eq_true_eq, decide_eq_false_iff_not, Φs, Φt, Φu, Φv, beq_self_eq_true, Φw, Φx, Φy, Φz, ΦA, eq_self, hP, h7_4, h7_5, h7_6, h7_7, h7_8, h7_12, h7_13, h7_14, h7_19]
                  · simp (maxSteps := 1000000) only [upd_app, Φa, Φb, Φc, ev, Φd, Φe, Φf, Φg, Φh, Φi, Φj, Φk, reduceIte, reduceCtorEq, if_true, if_false, Φl, Φm, Φn, Φo, true_and, and_true, false_and, and_false, true_implies, forall_const, false_implies, ne_eq, not_true_eq_false, not_false_eq_true, decide_true, decide_false, Φp, and_self, true_or, or_true, dite_true, dite_false, Φq, Φr, decide_eq_true_eq, decide_eq_false_iff_not, Φs, Φt, Φu, Φv, beq_self_eq_true, Φw, Φx, Φy, Φz, ΦA, eq_self, hP, h7_4, h7_5, h7_6, h7_7, h7_8, h7_12, h7_13, h7_14, h7_19]
                  · simp (maxSteps := 1000000) only [upd_app, Φa, Φb, Φc, ev, Φd, Φe, Φf, Φg, Φh, Φi, Φj, Φk, reduceIte, reduceCtorEq, if_true, if_false, Φl, Φm, Φn, Φo, true_and, and_true, false_and, and_false, true_implies, forall_const, false_implies, ne_eq, not_true_eq_false, not_false_eq_true, decide_true, decide_false, Φp, and_self, true_or, or_true, dite_true, dite_false, Φq, Φr, decide_eq_true_eq, decide_eq_false_iff_not, Φs, Φt, Φu, Φv, beq_self_eq_true, Φw, Φx, Φy, Φz, ΦA, eq_self, hP, h7_4, h7_5, h7_6, h7_7, h7_8, h7_12, h7_13, h7_14, h7_19]
                  · simp (maxSteps := 1000000) only [upd_app, Φa, Φb, Φc, ev, Φd, Φe, Φf, Φg, Φh, Φi, Φj, Φk, reduceIte, reduceCtorEq, if_true, if_false, Φl, Φm, Φn, Φo, true_and, and_true, false_and, and_false, true_implies, forall_const, false_implies, ne_eq, not_true_eq_false, not_false_eq_true, decide_true, decide_false, Φp, and_self, true_or, or_true, dite_true, dite_false, Φq, Φr, decide_eq_true_eq, decide_eq_false_iff_not, Φs, Φt, Φu, Φv, beq_self_eq_true, Φw, Φx, Φy, Φz, ΦA, eq_self, hP, h7_4, h7_5, h7_6, h7_7, h7_8, h7_12, h7_13, h7_14, h7_19]
                  · simp (maxSteps := 1000000) only [upd_app, Φa, Φb, Φc, ev, Φd, Φe, Φf, Φg, Φh, Φi, Φj, Φk, reduceIte, reduceCtorEq, if_true, if_false, Φl, Φm, Φn, Φo, true_and, and_true, false_and, and_false, true_implies, forall_const, false_implies, ne_eq, not_true_eq_false, not_false_eq_true, decide_true, decide_false, Φp, and_self, true_or, or_true, dite_true, dite_false, Φq, Φr, decide_eq_true_eq, decide_eq_false_iff_not, Φs, Φt, Φu, Φv, beq_self_eq_true, Φw, Φx, Φy, Φz, ΦA, eq_self, hP, h7_4, h7_5, h7_6, h7_7, h7_8, h7_12, h7_13, h7_14, h7_19]
                  · simp (maxSteps := 1000000) only [upd_app, Φa, Φb, Φc, ev, Φd, Φe, Φf, Φg, Φh, Φi, Φj, Φk, reduceIte, reduceCtorEq, if_true, if_false, Φl, Φm, Φn, Φo, true_and, and_true, false_and, and_false, true_implies, forall_const, false_implies, ne_eq, not_true_eq_false, not_false_eq_true, decide_true, decide_false, Φp, and_self, true_or, or_true, dite_true, dite_false, Φq, Φr, decide_eq_true_eq, decide_eq_false_iff_not, Φs, Φt, Φu, Φv, beq_self_eq_true, Φw, Φx, Φy, Φz, ΦA, eq_self, hP, h7_4, h7_5, h7_6, h7_7, h7_8, h7_12, h7_13, h7_14, h7_19]
                  · simp (maxSteps := 1000000) only [upd_app, Φa, Φb, Φc, ev, Φd, Φe, Φf, Φg, Φh, Φi, Φj, Φk, reduceIte, reduceCtorEq, if_true, if_false, Φl, Φm, Φn, Φo, true_and, and_true, false_and, and_false, true_implies, forall_const, false_implies, ne_eq, not_true_eq_false, not_false_eq_true, decide_true, decide_false, Φp, and_self, true_or, or_true, dite_true, dite_false, Φq, Φr, decide_eq_true_eq, decide_eq_false_iff_not, Φs, Φt, Φu, Φv, beq_self_eq_true, Φw, Φx, Φy, Φz, ΦA, eq_self, hP, h7_4, h7_5, h7_6, h7_7, h7_8, h7_12, h7_13, h7_14, h7_19]
                  · rfl
                  · trivial
                · clear hX26 hY26 X26 Y26
                  refine SX.skip ?_
                  try simp only [Φd, Φe, Φf, Φg, Φh, Φi, Φj, if_true, if_false, reduceIte]
                  refine hK24 () _ (s :: L) _ (by first | exact Less.refl _ | exact Less.drop _ _ | exact Less.drops (Less.drop _ _) | exact Less.drops (Less.drops (Less.drop _ _)) | exact Less.drops (Less.drops (Less.drops (Less.drop _ _))) | exact Less.drops (Less.drops (Less.drops (Less.drops (Less.drop _ _))))) ?_
                  try dsimp only
                  refine ⟨?_, ?_, ?_, ?_, ?_, ?_, ?_, ?_, ?_, ?_⟩
                  · simp (maxSteps := 1000000) only [upd_app, Φa, Φb, Φc, ev, Φd, Φe, Φf, Φg, Φh, Φi, Φj, Φk, reduceIte, reduceCtorEq, if_true, if_false, Φl, Φm, Φn, Φo, true_and, and_true, false_and, and_false, true_implies, forall_const, false_implies, ne_eq, not_true_eq_false, not_false_eq_true, decide_true, decide_false, Φp, and_self, true_or, or_true, dite_true, dite_false, Φq, Φr, decide_eq_true_eq, decide_eq_false_iff_not, Φs, Φt, Φu, Φv, beq_self_eq_true, Φw, Φx, Φy, Φz, ΦA, eq_self, hP, h7_4, h7_5, h7_6, h7_7, h7_8, h7_12, h7_13, h7_14, h7_19]
                    rw [if_neg (by unfold dotB; simpa using hc27)]
                  · simp (maxSteps := 1000000) only [upd_app, Φa, Φb, Φc, ev, Φd, Φe, Φf, Φg, Φh, Φi, Φj, Φk, reduceIte, reduceCtorEq, if_true, if_false, Φl, Φm, Φn, Φo, true_and, and_true, false_and, and_false, true_implies, forall_const, false_implies, ne_eq, not_true_eq_false, not_false_eq_true, decide_true, decide_false, Φp, and_self, true_or, or_true, dite_true, dite_false, Φq, Φr, decide_eq_true_eq, decide_eq_false_iff_not, Φs, Φt, Φu, Φv, beq_self_eq_true, Φw, Φx, Φy, Φz, ΦA, eq_self, hP, h7_4, h7_5, h7_6, h7_7, h7_8, h7_12, h7_13, h7_14, h7_19]
                  · simp (maxSteps := 1000000) only [upd_app, Φa, Φb, Φc, ev, Φd, Φe, Φf, Φg, Φh, Φi, Φj, Φk, reduceIte, reduceCtorEq, if_true, if_false, Φl, Φm, Φn, Φo, true_and, and_true, false_and, and_false, true_implies, forall_const, false_implies, ne_eq, not_true_eq_false, not_false_eq_true, decide_true, decide_false, Φp, and_self, true_or, or_true, dite_true, dite_false, Φq, Φr, decide_eq_true_eq, decide_eq_false_iff_not, Φs, Φt, Φu, Φv, beq_self_eq_true, Φw, Φx, Φy, Φz, ΦA, eq_self, hP, h7_4, h7_5, h7_6, h7_7, h7_8, h7_12, h7_13, h7_14, h7_19]
                  · simp (maxSteps := 1000000) only [upd_app, Φa, Φb, Φc, ev, Φd, Φe, Φf, Φg, Φh, Φi, Φj, Φk, reduceIte, reduceCtorEq, if_true, if_false, Φl, Φm, Φn, Φo, true_and, and_true, false_and, and_false, true_implies, forall_const, false_implies, ne_eq, not_true_eq_false, not_false_eq_true, decide_true, decide_false, Φp, and_self, true_or, or_true, dite_true, dite_false, Φq, Φr, decide_eq_true_eq, decide_eq_false_iff_not, Φs, Φt, Φu, Φv, beq_self_eq_true, Φw, Φx, Φy, Φz, ΦA, eq_self, hP, h7_4, h7_5, h7_6, h7_7, h7_8, h7_12, h7_13, h7_14, h7_19]
                  · simp (maxSteps := 1000000) only [upd_app, Φa, Φb, Φc, ev, Φd, Φe, Φf, Φg, Φh, Φi, Φj, Φk, reduceIte, reduceCtorEq, if_true, if_false, Φl, Φm, Φn, Φo, true_and, and_true, false_and, and_false, true_implies, forall_const, false_implies, ne_eq, not_true_eq_false, not_false_eq_true, decide_true, decide_false, Φp, and_self, true_or, or_true, dite_true, dite_false, Φq, Φr, decide_eq_true_eq, decide_eq_false_iff_not, Φs, Φt, Φu, Φv, beq_self_eq_true, Φw, Φx, Φy, Φz, ΦA, eq_self, hP, h7_4, h7_5, h7_6, h7_7, h7_8, h7_12, h7_13, h7_14, h7_19]
                  · simp (maxSteps := 1000000) only [upd_app, Φa, Φb, Φc, ev, Φd, Φe, Φf, Φg, Φh, Φi, Φj, Φk, reduceIte, reduceCtorEq, if_true, if_false, Φl, Φm, Φn, Φo, true_and, and_true, false_and, and_false, true_implies, forall_const, false_implies, ne_eq, not_true_eq_false, not_false_eq_true, decide_true, decide_false, Φp, and_self, true_or, or_true, dite_true, dite_false, Φq, Φr, decide_eq_true_eq, decide_eq_false_iff_not, Φs, Φt, Φu, Φv, beq_self_eq_true, Φw, Φx, Φy, Φz, ΦA, eq_self, hP, h7_4, h7_5, h7_6, h7_7, h7_8, h7_12, h7_13, h7_14, h7_19]
                  · simp (maxSteps := 1000000) only [upd_app, Φa, Φb, Φc, ev, Φd, Φe, Φf, Φg, Φh, Φi, Φj, Φk, reduceIte, reduceCtorEq, if_true, if_false, Φl, Φm, Φn, Φo, true_and, and_true, false_and, and_false, true_implies, forall_const, false_implies, ne_eq, not_true_eq_false, not_false_eq_true, decide_true, decide_false, Φp, and_self, true_or, or_true, dite_true, dite_false, Φq, Φr, decide_eq_true_eq, decide_eq_false_iff_not, Φs, Φt, Φu, Φv, beq_self_eq_true, Φw, Φx, Φy, Φz, ΦA, eq_self, hP, h7_4, h7_5, h7_6, h7_7, h7_8, h7_12, h7_13, h7_14, h7_19]
                  · simp (maxSteps := 1000000) only [upd_app, Φa, Φb, Φc, ev, Φd, Φe, Φf, Φg, Φh, Φi, Φj, Φk, reduceIte, reduceCtorEq, if_true, if_false, Φl, Φm, Φn, Φo, true_and, and_true, false_and, and_false, true_implies, forall_const, false_implies, ne_eq, not_true_eq_false, not_false_eq_true, decide_true, decide_false, Φp, and_self, true_or, or_true, dite_true, dite_false, Φq, Φr, decide_eq_true_eq, decide_eq_false_iff_not, Φs, Φt, Φu, Φv, beq_self_eq_true, Φw, Φx, Φy, Φz, ΦA, eq_self, hP, h7_4, h7_5, h7_6, h7_7, h7_8, h7_12, h7_13, h7_14, h7_19]
                  · rfl
                  · trivial
              · intro ss T8 L8 hI
                simp only [h7_4, h7_5, h7_6, h7_12, h7_13, h7_14, h7_19] at hI 
                obtain ⟨h8_8, h8_4, h8_5, h8_6, h8_12, h8_13, h8_14, h8_19, hL8, hinv⟩ := hI
                replace hL8 := hL8.symm
                subst hL8
                clear h7_4 h7_5 h7_6 h7_7 h7_8 h7_12 h7_13 h7_14 h7_19 T7
                refine SX.region ?_
                simp (maxSteps := 1000000) only [upd_app, Φa, Φb, Φc, ev, Φd, Φe, Φf, Φg, Φh, Φi, Φj, Φk, reduceIte, reduceCtorEq, if_true, if_false, Φl, Φm, Φn, Φo, true_and, and_true, false_and, and_false, true_implies, forall_const, false_implies, ne_eq, not_true_eq_false, not_false_eq_true, decide_true, decide_false, Φp, and_self, true_or, or_true, dite_true, dite_false, Φq, Φr, decide_eq_true_eq, decide_eq_false_iff_not, Φs, Φt, Φu, Φv, beq_self_eq_true, Φw, Φx, Φy, Φz, ΦA, eq_self, VCplan, less_refl_t, less_drop_t, VCops, VQops, guardVC, putVC, VC, VQ, Option.map_some, Option.map_none, ΦB, ΦC, ΦD, ΦE, ΦF, List.getElem?_cons_zero, List.getElem?_cons_succ, List.getElem?_nil, List.getElem?_toArray, List.map_cons, List.map_nil, ΦG, ΦH, ΦI, List.nil_append, ΦJ, List.append_nil, ΦK, ΦL, ΦM, List.length_nil, ΦN, ΦO, List.drop_zero, ΦP, ΦQ, List.take_zero, ΦR, Nat.reduceLT, ΦS, Nat.reduceAdd, Nat.reduceMul, Nat.reduceSub, Nat.add_zero, Nat.zero_add, Nat.mul_one, exists_eq_left, exists_eq_left', exists_const, existsSome, Nat.zero_le, Nat.le_refl, partVC, buildVC, placeL, fillL, setN, inOrd, catV, cells_int, cells_bool, cells_string, cells_pointer, cells_slice, cells_agg, oneB_nil, oneB_cons, one_int, one_bool, one_string, one_pointer, one_slice, one_map, one_func, one_nilFunc, one_nilIface, one_iface, cells_map, cells_func, cells_nilFunc, cells_nilIface, cells_iface, T.elS_25, T.szA_25, T.zr_25, Tryd.underlying25, T.szA_5, T.zr_5, Tryd.underlying5, qcall_f, call_f, len_slice, len_str, cap_slice, min_int, max_int, hP, h8_8, h8_4, h8_5, h8_6, h8_12, h8_13, h8_14, h8_19]
                intro bb
                refine YAppend.int1 (i := 0) (hP ▸ T.elS_25) (hP ▸ T.zr_5) rfl rfl hrow (by rw [List.length_append, dots_length]; omega) (by decide) (fun v2 s2 hrow2 => ?_)
                try simp (maxSteps := 1000000) only [upd_app, Φa, Φb, Φc, ev, Φd, Φe, Φf, Φg, Φh, Φi, Φj, Φk, reduceIte, reduceCtorEq, if_true, if_false, Φl, Φm, Φn, Φo, true_and, and_true, false_and, and_false, true_implies, forall_const, false_implies, ne_eq, not_true_eq_false, not_false_eq_true, decide_true, decide_false, Φp, and_self, true_or, or_true, dite_true, dite_false, Φq, Φr, decide_eq_true_eq, decide_eq_false_iff_not, Φs, Φt, Φu, Φv, beq_self_eq_true, Φw, Φx, Φy, Φz, ΦA, eq_self, VCplan, less_refl_t, less_drop_t, VCops, VQops, guardVC, putVC, VC, VQ, Option.map_some, Option.map_none, ΦB, ΦC, ΦD, ΦE, ΦF, List.getElem?_cons_zero, List.getElem?_cons_succ, List.getElem?_nil, List.getElem?_toArray, List.map_cons, List.map_nil, ΦG, ΦH, ΦI, List.nil_append, ΦJ, List.append_nil, ΦK, ΦL, ΦM, List.length_nil, ΦN, ΦO, List.drop_zero, ΦP, ΦQ, List.take_zero, ΦR, Nat.reduceLT, ΦS, Nat.reduceAdd, Nat.reduceMul, Nat.reduceSub, Nat.add_zero, Nat.zero_add, Nat.mul_one, exists_eq_left, exists_eq_left', exists_const, existsSome, Nat.zero_le, Nat.le_refl, partVC, buildVC, placeL, fillL, setN, inOrd, catV, cells_int, cells_bool, cells_string, cells_pointer, cells_slice, cells_agg, oneB_nil, oneB_cons, one_int, one_bool, one_string, one_pointer, one_slice, one_map, one_func, one_nilFunc, one_nilIface, one_iface, cells_map, cells_func, cells_nilFunc, cells_nilIface, cells_iface, T.elS_25, T.szA_25, T.zr_25, Tryd.underlying25, T.szA_5, T.zr_5, Tryd.underlying5, qcall_f, call_f, len_slice, len_str, cap_slice, min_int, max_int, hP, h8_8, h8_4, h8_5, h8_6, h8_12, h8_13, h8_14, h8_19]
                refine hK21 _ _ ?_
                try clear hK21 K21
                refine SX.region ?_
                simp (maxSteps := 1000000) only [upd_app, Φa, Φb, Φc, ev, Φd, Φe, Φf, Φg, Φh, Φi, Φj, Φk, reduceIte, reduceCtorEq, if_true, if_false, Φl, Φm, Φn, Φo, true_and, and_true, false_and, and_false, true_implies, forall_const, false_implies, ne_eq, not_true_eq_false, not_false_eq_true, decide_true, decide_false, Φp, and_self, true_or, or_true, dite_true, dite_false, Φq, Φr, decide_eq_true_eq, decide_eq_false_iff_not, Φs, Φt, Φu, Φv, beq_self_eq_true, Φw, Φx, Φy, Φz, ΦA, eq_self, VCplan, less_refl_t, less_drop_t, VCops, VQops, guardVC, putVC, VC, VQ, Option.map_some, Option.map_none, ΦB, ΦC, ΦD, ΦE, ΦF, List.getElem?_cons_zero, List.getElem?_cons_succ, List.getElem?_nil, List.getElem?_toArray, List.map_cons, List.map_nil, ΦG, ΦH, ΦI, List.nil_append, ΦJ, List.append_nil, ΦK, ΦL, ΦM, List.length_nil, ΦN, ΦO, List.drop_zero, ΦP, ΦQ, List.take_zero, ΦR, Nat.reduceLT, ΦS, Nat.reduceAdd, Nat.reduceMul, Nat.reduceSub, Nat.add_zero, Nat.zero_add, Nat.mul_one, exists_eq_left, exists_eq_left', exists_const, existsSome, Nat.zero_le, Nat.le_refl, bin_add, bin_adds, hP, h8_8, h8_4, h8_5, h8_6, h8_12, h8_13, h8_14, h8_19]
                refine hK17 (k + 1, v2, s2) _ (s2 :: L) _ (by first | exact Less.refl _ | exact Less.drop _ _ | exact Less.drops (Less.drop _ _) | exact Less.drops (Less.drops (Less.drop _ _)) | exact Less.drops (Less.drops (Less.drops (Less.drop _ _))) | exact Less.drops (Less.drops (Less.drops (Less.drops (Less.drop _ _))))) ?_ ?_
                · try dsimp only
                  refine ⟨?_, ?_, ?_, ?_, ?_, ?_, ?_, ?_, ?_⟩
                  · simp (maxSteps := 1000000) only [upd_app, Φa, Φb, Φc, ev, Φd, Φe, Φf, Φg, Φh, Φi, Φj, Φk, reduceIte, reduceCtorEq, if_true, if_false, Φl, Φm, Φn, Φo, true_and, and_true, false_and, and_false, true_implies, forall_const, false_implies, ne_eq, not_true_eq_false, not_false_eq_true, decide_true, decide_false, Φp, and_self, true_or, or_true, dite_true, dite_false, Φq, Φr, decide_eq_true_eq, decide_eq_false_iff_not, Φs, Φt, Φu, Φv, beq_self_eq_true, Φw, Φx, Φy, Φz, ΦA, eq_self, hP, h8_8, h8_4, h8_5, h8_6, h8_12, h8_13, h8_14, h8_19]
                    first | done | rfl | skip
                  · simp (maxSteps := 1000000) only [upd_app, Φa, Φb, Φc, ev, Φd, Φe, Φf, Φg, Φh, Φi, Φj, Φk, reduceIte, reduceCtorEq, if_true, if_false, Φl, Φm, Φn, Φo, true_and, and_true, false_and, and_false, true_implies, forall_const, false_implies, ne_eq, not_true_eq_false, not_false_eq_true, decide_true, decide_false, Φp, and_self, true_or, or_true, dite_true, dite_false, Φq, Φr, decide_eq_true_eq, decide_eq_false_iff_not, Φs, Φt, Φu, Φv, beq_self_eq_true, Φw, Φx, Φy, Φz, ΦA, eq_self, hP, h8_8, h8_4, h8_5, h8_6, h8_12, h8_13, h8_14, h8_19]
                    rw [inc64 (by omega)]
                  · simp (maxSteps := 1000000) only [upd_app, Φa, Φb, Φc, ev, Φd, Φe, Φf, Φg, Φh, Φi, Φj, Φk, reduceIte, reduceCtorEq, if_true, if_false, Φl, Φm, Φn, Φo, true_and, and_true, false_and, and_false, true_implies, forall_const, false_implies, ne_eq, not_true_eq_false, not_false_eq_true, decide_true, decide_false, Φp, and_self, true_or, or_true, dite_true, dite_false, Φq, Φr, decide_eq_true_eq, decide_eq_false_iff_not, Φs, Φt, Φu, Φv, beq_self_eq_true, Φw, Φx, Φy, Φz, ΦA, eq_self, hP, h8_8, h8_4, h8_5, h8_6, h8_12, h8_13, h8_14, h8_19]
                  · simp (maxSteps := 1000000) only [upd_app, Φa, Φb, Φc, ev, Φd, Φe, Φf, Φg, Φh, Φi, Φj, Φk, reduceIte, reduceCtorEq, if_true, if_false, Φl, Φm, Φn, Φo, true_and, and_true, false_and, and_false, true_implies, forall_const, false_implies, ne_eq, not_true_eq_false, not_false_eq_true, decide_true, decide_false, Φp, and_self, true_or, or_true, dite_true, dite_false, Φq, Φr, decide_eq_true_eq, decide_eq_false_iff_not, Φs, Φt, Φu, Φv, beq_self_eq_true, Φw, Φx, Φy, Φz, ΦA, eq_self, hP, h8_8, h8_4, h8_5, h8_6, h8_12, h8_13, h8_14, h8_19]
                  · simp (maxSteps := 1000000) only [upd_app, Φa, Φb, Φc, ev, Φd, Φe, Φf, Φg, Φh, Φi, Φj, Φk, reduceIte, reduceCtorEq, if_true, if_false, Φl, Φm, Φn, Φo, true_and, and_true, false_and, and_false, true_implies, forall_const, false_implies, ne_eq, not_true_eq_false, not_false_eq_true, decide_true, decide_false, Φp, and_self, true_or, or_true, dite_true, dite_false, Φq, Φr, decide_eq_true_eq, decide_eq_false_iff_not, Φs, Φt, Φu, Φv, beq_self_eq_true, Φw, Φx, Φy, Φz, ΦA, eq_self, hP, h8_8, h8_4, h8_5, h8_6, h8_12, h8_13, h8_14, h8_19]
                  · simp (maxSteps := 1000000) only [upd_app, Φa, Φb, Φc, ev, Φd, Φe, Φf, Φg, Φh, Φi, Φj, Φk, reduceIte, reduceCtorEq, if_true, if_false, Φl, Φm, Φn, Φo, true_and, and_true, false_and, and_false, true_implies, forall_const, false_implies, ne_eq, not_true_eq_false, not_false_eq_true, decide_true, decide_false, Φp, and_self, true_or, or_true, dite_true, dite_false, Φq, Φr, decide_eq_true_eq, decide_eq_false_iff_not, Φs, Φt, Φu, Φv, beq_self_eq_true, Φw, Φx, Φy, Φz, ΦA, eq_self, hP, h8_8, h8_4, h8_5, h8_6, h8_12, h8_13, h8_14, h8_19]
                  · simp (maxSteps := 1000000) only [upd_app, Φa, Φb, Φc, ev, Φd, Φe, Φf, Φg, Φh, Φi, Φj, Φk, reduceIte, reduceCtorEq, if_true, if_false, Φl, Φm, Φn, Φo, true_and, and_true, false_and, and_false, true_implies, forall_const, false_implies, ne_eq, not_true_eq_false, not_false_eq_true, decide_true, decide_false, Φp, and_self, true_or, or_true, dite_true, dite_false, Φq, Φr, decide_eq_true_eq, decide_eq_false_iff_not, Φs, Φt, Φu, Φv, beq_self_eq_true, Φw, Φx, Φy, Φz, ΦA, eq_self, hP, h8_8, h8_4, h8_5, h8_6, h8_12, h8_13, h8_14, h8_19]
                  · rfl
                  · refine ⟨by omega, ?_⟩
                    rw [List.append_assoc, ← dots_succ] at hrow2
                    exact hrow2
                · (try dsimp only); omega
            · clear hX20 hY20 X20 Y20
              refine SX.exit ?_
              try simp only [Φd, Φe, Φf, Φg, Φh, Φi, Φj, if_true, if_false, reduceIte]
              refine hK15 _ _ ?_
              try clear hK15 K15
              refine SX.seq_k fun K27 hK27 => ?_
              obtain rfl : k = 8 := by omega
              refine SX.region ?_
              simp (maxSteps := 1000000) only [upd_app, Φa, Φb, Φc, ev, Φd, Φe, Φf, Φg, Φh, Φi, Φj, Φk, reduceIte, reduceCtorEq, if_true, if_false, Φl, Φm, Φn, Φo, true_and, and_true, false_and, and_false, true_implies, forall_const, false_implies, ne_eq, not_true_eq_false, not_false_eq_true, decide_true, decide_false, Φp, and_self, true_or, or_true, dite_true, dite_false, Φq, Φr, decide_eq_true_eq, decide_eq_false_iff_not, Φs, Φt, Φu, Φv, beq_self_eq_true, Φw, Φx, Φy, Φz, ΦA, eq_self, VCplan, less_refl_t, less_drop_t, VCops, VQops, guardVC, putVC, VC, VQ, Option.map_some, Option.map_none, ΦB, ΦC, ΦD, ΦE, ΦF, List.getElem?_cons_zero, List.getElem?_cons_succ, List.getElem?_nil, List.getElem?_toArray, List.map_cons, List.map_nil, ΦG, ΦH, ΦI, List.nil_append, ΦJ, List.append_nil, ΦK, ΦL, ΦM, List.length_nil, ΦN, ΦO, List.drop_zero, ΦP, ΦQ, List.take_zero, ΦR, Nat.reduceLT, ΦS, Nat.reduceAdd, Nat.reduceMul, Nat.reduceSub, Nat.add_zero, Nat.zero_add, Nat.mul_one, exists_eq_left, exists_eq_left', exists_const, existsSome, Nat.zero_le, Nat.le_refl, bin_rem, bin_eql, bin_eqlb, bin_eqls, bin_eqla, T.szA_3, T.zr_3, Tryd.underlying3, hP, h6_4, h6_19, h6_5, h6_6, h6_12, h6_13, h6_14]
              refine hK27 _ _ ?_
              try clear hK27 K27
              refine SX.cond_k fun X28 Y28 hX28 hY28 => ?_
              simp (maxSteps := 1000000) only [upd_app, Φa, Φb, Φc, ev, Φd, Φe, Φf, Φg, Φh, Φi, Φj, Φk, reduceIte, reduceCtorEq, if_true, if_false, Φl, Φm, Φn, Φo, true_and, and_true, false_and, and_false, true_implies, forall_const, false_implies, ne_eq, not_true_eq_false, not_false_eq_true, decide_true, decide_false, Φp, and_self, true_or, or_true, dite_true, dite_false, Φq, Φr, decide_eq_true_eq, decide_eq_false_iff_not, Φs, Φt, Φu, Φv, beq_self_eq_true, Φw, Φx, Φy, Φz, ΦA, eq_self, hP, h6_4, h6_19, h6_5, h6_6, h6_12, h6_13, h6_14, condVC]
              refine ⟨fun hc35 => hX28 ?_, fun hc35 => hY28 ?_⟩
              · clear hX28 hY28 X28 Y28
                have hm8 : i % 8 = 7 := by have h8 : ((i : Int).tmod 8) = ((i % 8 : Nat) : Int) := rfl; omega
                refine SX.region ?_
                simp (maxSteps := 1000000) only [upd_app, Φa, Φb, Φc, ev, Φd, Φe, Φf, Φg, Φh, Φi, Φj, Φk, reduceIte, reduceCtorEq, if_true, if_false, Φl, Φm, Φn, Φo, true_and, and_true, false_and, and_false, true_implies, forall_const, false_implies, ne_eq, not_true_eq_false, not_false_eq_true, decide_true, decide_false, Φp, and_self, true_or, or_true, dite_true, dite_false, Φq, Φr, decide_eq_true_eq, decide_eq_false_iff_not, Φs, Φt, Φu, Φv, beq_self_eq_true, Φw, Φx, Φy, Φz, ΦA, eq_self, VCplan, less_refl_t, less_drop_t, VCops, VQops, guardVC, putVC, VC, VQ, Option.map_some, Option.map_none, ΦB, ΦC, ΦD, ΦE, ΦF, List.getElem?_cons_zero, List.getElem?_cons_succ, List.getElem?_nil, List.getElem?_toArray, List.map_cons, List.map_nil, ΦG, ΦH, ΦI, List.nil_append, ΦJ, List.append_nil, ΦK, ΦL, ΦM, List.length_nil, ΦN, ΦO, List.drop_zero, ΦP, ΦQ, List.take_zero, ΦR, Nat.reduceLT, ΦS, Nat.reduceAdd, Nat.reduceMul, Nat.reduceSub, Nat.add_zero, Nat.zero_add, Nat.mul_one, exists_eq_left, exists_eq_left', exists_const, existsSome, Nat.zero_le, Nat.le_refl, partVC, buildVC, placeL, fillL, setN, inOrd, catV, cells_int, cells_bool, cells_string, cells_pointer, cells_slice, cells_agg, oneB_nil, oneB_cons, one_int, one_bool, one_string, one_pointer, one_slice, one_map, one_func, one_nilFunc, one_nilIface, one_iface, cells_map, cells_func, cells_nilFunc, cells_nilIface, cells_iface, T.elS_25, T.szA_25, T.zr_25, Tryd.underlying25, T.szA_5, T.zr_5, Tryd.underlying5, qcall_f, call_f, len_slice, len_str, cap_slice, min_int, max_int, hP, h6_4, h6_19, h6_5, h6_6, h6_12, h6_13, h6_14]
                intro bb
                refine YAppend.int1 (i := 0) (hP ▸ T.elS_25) (hP ▸ T.zr_5) rfl rfl hrow (by rw [List.length_append, dots_length]; omega) (by decide) (fun v2 s2 hrow2 => ?_)
                try simp (maxSteps := 1000000) only [upd_app, Φa, Φb, Φc, ev, Φd, Φe, Φf, Φg, Φh, Φi, Φj, Φk, reduceIte, reduceCtorEq, if_true, if_false, Φl, Φm, Φn, Φo, true_and, and_true, false_and, and_false, true_implies, forall_const, false_implies, ne_eq, not_true_eq_false, not_false_eq_true, decide_true, decide_false, Φp, and_self, true_or, or_true, dite_true, dite_false, Φq, Φr, decide_eq_true_eq, decide_eq_false_iff_not, Φs, Φt, Φu, Φv, beq_self_eq_true, Φw, Φx, Φy, Φz, ΦA, eq_self, VCplan, less_refl_t, less_drop_t, VCops, VQops, guardVC, putVC, VC, VQ, Option.map_some, Option.map_none, ΦB, ΦC, ΦD, ΦE, ΦF, List.getElem?_cons_zero, List.getElem?_cons_succ, List.getElem?_nil, List.getElem?_toArray, List.map_cons, List.map_nil, ΦG, ΦH, ΦI, List.nil_append, ΦJ, List.append_nil, ΦK, ΦL, ΦM, List.length_nil, ΦN, ΦO, List.drop_zero, ΦP, ΦQ, List.take_zero, ΦR, Nat.reduceLT, ΦS, Nat.reduceAdd, Nat.reduceMul, Nat.reduceSub, Nat.add_zero, Nat.zero_add, Nat.mul_one, exists_eq_left, exists_eq_left', exists_const, existsSome, Nat.zero_le, Nat.le_refl, partVC, buildVC, placeL, fillL, setN, inOrd, catV, cells_int, cells_bool, cells_string, cells_pointer, cells_slice, cells_agg, oneB_nil, oneB_cons, one_int, one_bool, one_string, one_pointer, one_slice, one_map, one_func, one_nilFunc, one_nilIface, one_iface, cells_map, cells_func, cells_nilFunc, cells_nilIface, cells_iface, T.elS_25, T.szA_25, T.zr_25, Tryd.underlying25, T.szA_5, T.zr_5, Tryd.underlying5, qcall_f, call_f, len_slice, len_str, cap_slice, min_int, max_int, hP, h6_4, h6_19, h6_5, h6_6, h6_12, h6_13, h6_14]
                refine hK13 (v2, s2) _ (s2 :: L) _ (by first | exact Less.refl _ | exact Less.drop _ _ | exact Less.drops (Less.drop _ _) | exact Less.drops (Less.drops (Less.drop _ _)) | exact Less.drops (Less.drops (Less.drops (Less.drop _ _))) | exact Less.drops (Less.drops (Less.drops (Less.drops (Less.drop _ _))))) ?_
                try dsimp only
                refine ⟨?_, ?_, ?_, ?_, ?_, ?_⟩
                · simp (maxSteps := 1000000) only [upd_app, Φa, Φb, Φc, ev, Φd, Φe, Φf, Φg, Φh, Φi, Φj, Φk, reduceIte, reduceCtorEq, if_true, if_false, Φl, Φm, Φn, Φo, true_and, and_true, false_and, and_false, true_implies, forall_const, false_implies, ne_eq, not_true_eq_false, not_false_eq_true, decide_true, decide_false, Φp, and_self, true_or, or_true, dite_true, dite_false, Φq, Φr, decide_eq_true_eq, decide_eq_false_iff_not, Φs, Φt, Φu, Φv, beq_self_eq_true, Φw, Φx, Φy, Φz, ΦA, eq_self, hP, h6_4, h6_19, h6_5, h6_6, h6_12, h6_13, h6_14]
                  first | done | rfl | skip
                · simp (maxSteps := 1000000) only [upd_app, Φa, Φb, Φc, ev, Φd, Φe, Φf, Φg, Φh, Φi, Φj, Φk, reduceIte, reduceCtorEq, if_true, if_false, Φl, Φm, Φn, Φo, true_and, and_true, false_and, and_false, true_implies, forall_const, false_implies, ne_eq, not_true_eq_false, not_false_eq_true, decide_true, decide_false, Φp, and_self, true_or, or_true, dite_true, dite_false, Φq, Φr, decide_eq_true_eq, decide_eq_false_iff_not, Φs, Φt, Φu, Φv, beq_self_eq_true, Φw, Φx, Φy, Φz, ΦA, eq_self, hP, h6_4, h6_19, h6_5, h6_6, h6_12, h6_13, h6_14]
                · simp (maxSteps := 1000000) only [upd_app, Φa, Φb, Φc, ev, Φd, Φe, Φf, Φg, Φh, Φi, Φj, Φk, reduceIte, reduceCtorEq, if_true, if_false, Φl, Φm, Φn, Φo, true_and, and_true, false_and, and_false, true_implies, forall_const, false_implies, ne_eq, not_true_eq_false, not_false_eq_true, decide_true, decide_false, Φp, and_self, true_or, or_true, dite_true, dite_false, Φq, Φr, decide_eq_true_eq, decide_eq_false_iff_not, Φs, Φt, Φu, Φv, beq_self_eq_true, Φw, Φx, Φy, Φz, ΦA, eq_self, hP, h6_4, h6_19, h6_5, h6_6, h6_12, h6_13, h6_14]
                · simp (maxSteps := 1000000) only [upd_app, Φa, Φb, Φc, ev, Φd, Φe, Φf, Φg, Φh, Φi, Φj, Φk, reduceIte, reduceCtorEq, if_true, if_false, Φl, Φm, Φn, Φo, true_and, and_true, false_and, and_false, true_implies, forall_const, false_implies, ne_eq, not_true_eq_false, not_false_eq_true, decide_true, decide_false, Φp, and_self, true_or, or_true, dite_true, dite_false, Φq, Φr, decide_eq_true_eq, decide_eq_false_iff_not, Φs, Φt, Φu, Φv, beq_self_eq_true, Φw, Φx, Φy, Φz, ΦA, eq_self, hP, h6_4, h6_19, h6_5, h6_6, h6_12, h6_13, h6_14]
                · rfl
                · rw [showTo_succ, hgd, rowEnd, if_pos (by omega)]
                  rw [List.append_assoc] at hrow2
                  exact hrow2
              · clear hX28 hY28 X28 Y28
                have hm8 : ¬ i % 8 = 7 := by have h8 : ((i : Int).tmod 8) = ((i % 8 : Nat) : Int) := rfl; omega
                refine SX.skip ?_
                try simp only [Φd, Φe, Φf, Φg, Φh, Φi, Φj, if_true, if_false, reduceIte]
                refine hK13 (v, s) _ (s :: L) _ (by first | exact Less.refl _ | exact Less.drop _ _ | exact Less.drops (Less.drop _ _) | exact Less.drops (Less.drops (Less.drop _ _)) | exact Less.drops (Less.drops (Less.drops (Less.drop _ _))) | exact Less.drops (Less.drops (Less.drops (Less.drops (Less.drop _ _))))) ?_
                try dsimp only
                refine ⟨?_, ?_, ?_, ?_, ?_, ?_⟩
                · simp (maxSteps := 1000000) only [upd_app, Φa, Φb, Φc, ev, Φd, Φe, Φf, Φg, Φh, Φi, Φj, Φk, reduceIte, reduceCtorEq, if_true, if_false, Φl, Φm, Φn, Φo, true_and, and_true, false_and, and_false, true_implies, forall_const, false_implies, ne_eq, not_true_eq_false, not_false_eq_true, decide_true, decide_false, Φp, and_self, true_or, or_true, dite_true, dite_false, Φq, Φr, decide_eq_true_eq, decide_eq_false_iff_not, Φs, Φt, Φu, Φv, beq_self_eq_true, Φw, Φx, Φy, Φz, ΦA, eq_self, hP, h6_4, h6_19, h6_5, h6_6, h6_12, h6_13, h6_14]
                  first | done | rfl | skip
                · simp (maxSteps := 1000000) only [upd_app, Φa, Φb, Φc, ev, Φd, Φe, Φf, Φg, Φh, Φi, Φj, Φk, reduceIte, reduceCtorEq, if_true, if_false, Φl, Φm, Φn, Φo, true_and, and_true, false_and, and_false, true_implies, forall_const, false_implies, ne_eq, not_true_eq_false, not_false_eq_true, decide_true, decide_false, Φp, and_self, true_or, or_true, dite_true, dite_false, Φq, Φr, decide_eq_true_eq, decide_eq_false_iff_not, Φs, Φt, Φu, Φv, beq_self_eq_true, Φw, Φx, Φy, Φz, ΦA, eq_self, hP, h6_4, h6_19, h6_5, h6_6, h6_12, h6_13, h6_14]
                · simp (maxSteps := 1000000) only [upd_app, Φa, Φb, Φc, ev, Φd, Φe, Φf, Φg, Φh, Φi, Φj, Φk, reduceIte, reduceCtorEq, if_true, if_false, Φl, Φm, Φn, Φo, true_and, and_true, false_and, and_false, true_implies, forall_const, false_implies, ne_eq, not_true_eq_false, not_false_eq_true, decide_true, decide_false, Φp, and_self, true_or, or_true, dite_true, dite_false, Φq, Φr, decide_eq_true_eq, decide_eq_false_iff_not, Φs, Φt, Φu, Φv, beq_self_eq_true, Φw, Φx, Φy, Φz, ΦA, eq_self, hP, h6_4, h6_19, h6_5, h6_6, h6_12, h6_13, h6_14]
                · simp (maxSteps := 1000000) only [upd_app, Φa, Φb, Φc, ev, Φd, Φe, Φf, Φg, Φh, Φi, Φj, Φk, reduceIte, reduceCtorEq, if_true, if_false, Φl, Φm, Φn, Φo, true_and, and_true, false_and, and_false, true_implies, forall_const, false_implies, ne_eq, not_true_eq_false, not_false_eq_true, decide_true, decide_false, Φp, and_self, true_or, or_true, dite_true, dite_false, Φq, Φr, decide_eq_true_eq, decide_eq_false_iff_not, Φs, Φt, Φu, Φv, beq_self_eq_true, Φw, Φx, Φy, Φz, ΦA, eq_self, hP, h6_4, h6_19, h6_5, h6_6, h6_12, h6_13, h6_14]
                · rfl
                · rw [showTo_succ, hgd, rowEnd, if_neg (by omega), List.append_nil]
                  exact hrow
        · intro ss T9 L9 hI
          obtain ⟨v, s⟩ := ss
          try dsimp only at hI 
          simp only [h4_12, h4_13, h4_14] at hI 
          obtain ⟨h9_4, h9_12, h9_13, h9_14, hL9, hrow⟩ := hI
          replace hL9 := hL9.symm
          subst hL9
          clear h4_4 h4_12 h4_13 h4_14 T4
          refine SX.region ?_
          simp (maxSteps := 1000000) only [upd_app, Φa, Φb, Φc, ev, Φd, Φe, Φf, Φg, Φh, Φi, Φj, Φk, reduceIte, reduceCtorEq, if_true, if_false, Φl, Φm, Φn, Φo, true_and, and_true, false_and, and_false, true_implies, forall_const, false_implies, ne_eq, not_true_eq_false, not_false_eq_true, decide_true, decide_false, Φp, and_self, true_or, or_true, dite_true, dite_false, Φq, Φr, decide_eq_true_eq, decide_eq_false_iff_not, Φs, Φt, Φu, Φv, beq_self_eq_true, Φw, Φx, Φy, Φz, ΦA, eq_self, VCplan, less_refl_t, less_drop_t, VCops, VQops, guardVC, putVC, VC, VQ, Option.map_some, Option.map_none, ΦB, ΦC, ΦD, ΦE, ΦF, List.getElem?_cons_zero, List.getElem?_cons_succ, List.getElem?_nil, List.getElem?_toArray, List.map_cons, List.map_nil, ΦG, ΦH, ΦI, List.nil_append, ΦJ, List.append_nil, ΦK, ΦL, ΦM, List.length_nil, ΦN, ΦO, List.drop_zero, ΦP, ΦQ, List.take_zero, ΦR, Nat.reduceLT, ΦS, Nat.reduceAdd, Nat.reduceMul, Nat.reduceSub, Nat.add_zero, Nat.zero_add, Nat.mul_one, exists_eq_left, exists_eq_left', exists_const, existsSome, Nat.zero_le, Nat.le_refl, bin_add, bin_adds, hP, h9_4, h9_12, h9_13, h9_14]
          refine hK9 (i + 1, v, s) _ (s :: L) _ (by first | exact Less.refl _ | exact Less.drop _ _ | exact Less.drops (Less.drop _ _) | exact Less.drops (Less.drops (Less.drop _ _)) | exact Less.drops (Less.drops (Less.drops (Less.drop _ _))) | exact Less.drops (Less.drops (Less.drops (Less.drops (Less.drop _ _))))) ?_ ?_
          · try dsimp only
            refine ⟨?_, ?_, ?_, ?_, ?_, ?_⟩
            · simp (maxSteps := 1000000) only [upd_app, Φa, Φb, Φc, ev, Φd, Φe, Φf, Φg, Φh, Φi, Φj, Φk, reduceIte, reduceCtorEq, if_true, if_false, Φl, Φm, Φn, Φo, true_and, and_true, false_and, and_false, true_implies, forall_const, false_implies, ne_eq, not_true_eq_false, not_false_eq_true, decide_true, decide_false, Φp, and_self, true_or, or_true, dite_true, dite_false, Φq, Φr, decide_eq_true_eq, decide_eq_false_iff_not, Φs, Φt, Φu, Φv, beq_self_eq_true, Φw, Φx, Φy, Φz, ΦA, eq_self, hP, h9_4, h9_12, h9_13, h9_14]
              first | done | rfl | skip
            · simp (maxSteps := 1000000) only [upd_app, Φa, Φb, Φc, ev, Φd, Φe, Φf, Φg, Φh, Φi, Φj, Φk, reduceIte, reduceCtorEq, if_true, if_false, Φl, Φm, Φn, Φo, true_and, and_true, false_and, and_false, true_implies, forall_const, false_implies, ne_eq, not_true_eq_false, not_false_eq_true, decide_true, decide_false, Φp, and_self, true_or, or_true, dite_true, dite_false, Φq, Φr, decide_eq_true_eq, decide_eq_false_iff_not, Φs, Φt, Φu, Φv, beq_self_eq_true, Φw, Φx, Φy, Φz, ΦA, eq_self, hP, h9_4, h9_12, h9_13, h9_14]
              rw [inc64 (by omega)]
            · simp (maxSteps := 1000000) only [upd_app, Φa, Φb, Φc, ev, Φd, Φe, Φf, Φg, Φh, Φi, Φj, Φk, reduceIte, reduceCtorEq, if_true, if_false, Φl, Φm, Φn, Φo, true_and, and_true, false_and, and_false, true_implies, forall_const, false_implies, ne_eq, not_true_eq_false, not_false_eq_true, decide_true, decide_false, Φp, and_self, true_or, or_true, dite_true, dite_false, Φq, Φr, decide_eq_true_eq, decide_eq_false_iff_not, Φs, Φt, Φu, Φv, beq_self_eq_true, Φw, Φx, Φy, Φz, ΦA, eq_self, hP, h9_4, h9_12, h9_13, h9_14]
            · simp (maxSteps := 1000000) only [upd_app, Φa, Φb, Φc, ev, Φd, Φe, Φf, Φg, Φh, Φi, Φj, Φk, reduceIte, reduceCtorEq, if_true, if_false, Φl, Φm, Φn, Φo, true_and, and_true, false_and, and_false, true_implies, forall_const, false_implies, ne_eq, not_true_eq_false, not_false_eq_true, decide_true, decide_false, Φp, and_self, true_or, or_true, dite_true, dite_false, Φq, Φr, decide_eq_true_eq, decide_eq_false_iff_not, Φs, Φt, Φu, Φv, beq_self_eq_true, Φw, Φx, Φy, Φz, ΦA, eq_self, hP, h9_4, h9_12, h9_13, h9_14]
            · rfl
            · exact ⟨by omega, hrow⟩
          · (try dsimp only); omega
      · clear hX12 hY12 X12 Y12
        refine SX.exit ?_
        try simp only [Φd, Φe, Φf, Φg, Φh, Φi, Φj, if_true, if_false, reduceIte]
        refine hK7 _ _ ?_
        try clear hK7 K7
        refine SX.seq_k fun K29 hK29 => ?_
        obtain rfl : i = 256 := by omega
        refine SX.region ?_
        simp (maxSteps := 1000000) only [upd_app, Φa, Φb, Φc, ev, Φd, Φe, Φf, Φg, Φh, Φi, Φj, Φk, reduceIte, reduceCtorEq, if_true, if_false, Φl, Φm, Φn, Φo, true_and, and_true, false_and, and_false, true_implies, forall_const, false_implies, ne_eq, not_true_eq_false, not_false_eq_true, decide_true, decide_false, Φp, and_self, true_or, or_true, dite_true, dite_false, Φq, Φr, decide_eq_true_eq, decide_eq_false_iff_not, Φs, Φt, Φu, Φv, beq_self_eq_true, Φw, Φx, Φy, Φz, ΦA, eq_self, VCplan, less_refl_t, less_drop_t, VCops, VQops, guardVC, putVC, VC, VQ, Option.map_some, Option.map_none, ΦB, ΦC, ΦD, ΦE, ΦF, List.getElem?_cons_zero, List.getElem?_cons_succ, List.getElem?_nil, List.getElem?_toArray, List.map_cons, List.map_nil, ΦG, ΦH, ΦI, List.nil_append, ΦJ, List.append_nil, ΦK, ΦL, ΦM, List.length_nil, ΦN, ΦO, List.drop_zero, ΦP, ΦQ, List.take_zero, ΦR, Nat.reduceLT, ΦS, Nat.reduceAdd, Nat.reduceMul, Nat.reduceSub, Nat.add_zero, Nat.zero_add, Nat.mul_one, exists_eq_left, exists_eq_left', exists_const, existsSome, Nat.zero_le, Nat.le_refl, conv_int, conv_slice, conv_nil, cv_str, cv_int, cv_slice, T.elS_25, T.szA_25, T.zr_25, Tryd.underlying25, T.szA_9, T.zr_9, Tryd.underlying9, T.szA_5, T.zr_5, Tryd.underlying5, hP, h3_4, h3_14, h3_12, h3_13]
        refine cv_row (hP ▸ Tryd.underlying25) (hP ▸ Tryd.underlying9) (hP ▸ Tryd.underlying5) (RowI.sl (L := s :: L) (i := 0) hrow rfl) (showTo_byte page 256) ?_
        refine hK29 _ _ ?_
        try clear hK29 K29
        refine SX.ret ?_
        simp only [Φd, Φe, Φf, Φg, Φh, Φi, Φj, if_true, if_false, reduceIte, retQ_ret]
        try simp only [res0, res1, res2, res3, upd_app, Φa, Φb, Φc, ev, Φd, Φe, Φf, Φg, Φh, Φi, Φj, Φk, reduceIte, reduceCtorEq, if_true, if_false, Φl, Φm, Φn, Φo, true_and, and_true, false_and, and_false, true_implies, forall_const, false_implies, ne_eq, not_true_eq_false, not_false_eq_true, decide_true, decide_false, Φp, and_self, true_or, or_true, dite_true, dite_false, Φq, Φr, decide_eq_true_eq, decide_eq_false_iff_not, Φs, Φt, Φu, Φv, beq_self_eq_true, Φw, Φx, Φy, Φz, ΦA, eq_self, hP, h3_4, h3_14, h3_12, h3_13]
        exact ⟨_, L, (by first | exact Less.refl _ | exact Less.drop _ _ | exact Less.drops (Less.drop _ _) | exact Less.drops (Less.drops (Less.drop _ _)) | exact Less.drops (Less.drops (Less.drops (Less.drop _ _))) | exact Less.drops (Less.drops (Less.drops (Less.drops (Less.drop _ _))))), rfl, by rw [showS, showE, if_pos hlen256, if_pos hlen256], rfl⟩
end Go.Proofs.YtcakdalajafmoaaDoor
