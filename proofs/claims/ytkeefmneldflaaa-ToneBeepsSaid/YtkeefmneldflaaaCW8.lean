/- A part of the proof of ToneBeepsSaid. -/
import Derived.Test.YtkeefmneldflaaaCW4
import Derived.Test.YtkeefmneldflaaaCW6
set_option linter.unusedVariables false
set_option linter.unusedSimpArgs false
namespace Go.Proofs.Ytkeefmneldflaaa
open Go.RowKit Go.SX
open Go.SX renaming upd_app → Φa, env0_zero → Φb, env0_succ → Φc, env0_nil → Φd, andThen_normal → Φe, andThen_ret → Φf, andThen_exit → Φg, inBlk_normal → Φh, inBlk_ret → Φi, inBlk_exit → Φj, less_refl_t → ΦC, less_drop_t → ΦD
open Nat renaming reduceEqDiff → Φk, reduceBEq → Φl, reduceLT → Ψe, reduceLeDiff → Ψf, reduceAdd → Ψg, reduceMul → Ψh, reduceSub → Ψi, add_zero → Ψj, zero_add → Ψk, mul_one → Ψl, zero_le → Ψm, le_refl → Ψn
open Bool renaming not_true → Φm, not_false → Φn, false_eq_true → Φo, true_eq_false → Φp, not_eq_true' → Φr, not_eq_false' → Φs, not_eq_true → Φu, not_eq_false → Φv, and_true → Φx, true_and → Φy, and_self → Φz, and_false → ΦA, false_and → ΦB
open Int renaming reduceEq → Φq, natCast_inj → Φw
open Decidable renaming not_not → Φt
open Option renaming map_some → ΦE, map_none → ΦF, bind_some → ΦG, bind_none → ΦH, isSome_some → ΦI, isSome_none → ΦJ
open Option.some renaming injEq → ΦK
open List renaming map_cons → ΦL, map_nil → ΦM, map_toArray → ΦN, toList_toArray → ΦO, append_toArray → ΦP, nil_append → ΦQ, cons_append → ΦR, append_nil → ΦS, flatMap_cons → ΦT, flatMap_nil → ΦU, length_cons → ΦV, length_nil → ΦW, set_cons_zero → ΦX, set_cons_succ → ΦY, drop_zero → ΦZ, drop_succ_cons → Ψa, take_succ_cons → Ψb, take_zero → Ψc, size_toArray → Ψd

theorem drop_q {qs : List Bool} {i : Nat} (h : i < qs.length) : qs.drop i = qs.getD i false :: qs.drop (i + 1) := by
  rw [List.drop_eq_getElem_cons h, List.getD_eq_getElem?_getD, List.getElem?_eq_getElem h]; rfl
theorem drop_i {v : List Int} {i : Nat} (h : i < v.length) : v.drop i = v.getD i 0 :: v.drop (i + 1) := by
  rw [List.drop_eq_getElem_cons h, List.getD_eq_getElem?_getD, List.getElem?_eq_getElem h]; rfl
theorem getD_at {v : List Int} {i : Nat} (h : i < v.length) : v[i]? = some (v.getD i 0) := by
  rw [List.getD_eq_getElem?_getD, List.getElem?_eq_getElem h]; rfl
set_option maxHeartbeats 1000000 in
set_option maxRecDepth 100000 in
theorem refLevels_spec {Γ : Ctx} (hP : Γ.P = Try.prog) {L : Hp} {A : Option Addr} {c : Nat} {qs : List Bool} (hm : qs.length < 2147483648) (hc : qs.length ≤ c) (hq : Recs Γ L A qs) :
    SCall Γ 16 #[(.slice A qs.length c)] L (fun v L' => ∃ s, L' = s :: L ∧ RowI .i64 3 v (refLev qs) s) := by
  refine SCall.enter (n := 38) (res1 2) (hP ▸ Try.func16) rfl rfl (by simp) (res1_ok rfl) ?_
  refine SX.seq_k fun K1 hK1 => ?_
  refine SX.region ?_
  simp (maxSteps := 1000000) only [Φa, Φb, Φc, Φd, ev, Φe, Φf, Φg, Φh, Φi, Φj, Φk, Φl, reduceIte, reduceCtorEq, if_true, if_false, Φm, Φn, Φo, Φp, true_and, and_true, false_and, and_false, true_implies, forall_const, false_implies, ne_eq, not_true_eq_false, not_false_eq_true, decide_true, decide_false, Φq, and_self, true_or, or_true, dite_true, dite_false, Φr, Φs, decide_eq_true_eq, decide_eq_false_iff_not, Φt, Φu, Φv, Φw, beq_self_eq_true, Φx, Φy, Φz, ΦA, ΦB, eq_self, VCplan, ΦC, ΦD, VCops, VQops, guardVC, putVC, VC, VQ, ΦE, ΦF, ΦG, ΦH, ΦI, ΦJ, ΦK, List.getElem?_cons_zero, List.getElem?_cons_succ, List.getElem?_nil, List.getElem?_toArray, ΦL, ΦM, ΦN, ΦO, ΦP, ΦQ, ΦR, ΦS, ΦT, ΦU, ΦV, ΦW, ΦX, ΦY, ΦZ, Ψa, Ψb, Ψc, Ψd, Ψe, Ψf, Ψg, Ψh, Ψi, Ψj, Ψk, Ψl, exists_eq_left, exists_eq_left', exists_const, existsSome, Ψm, Ψn, hP]
  refine hK1 _ _ ?_
  try clear hK1 K1
  refine SX.seq_k fun K2 hK2 => ?_
  refine SX.region ?_
  simp (maxSteps := 1000000) only [Φa, Φb, Φc, Φd, ev, Φe, Φf, Φg, Φh, Φi, Φj, Φk, Φl, reduceIte, reduceCtorEq, if_true, if_false, Φm, Φn, Φo, Φp, true_and, and_true, false_and, and_false, true_implies, forall_const, false_implies, ne_eq, not_true_eq_false, not_false_eq_true, decide_true, decide_false, Φq, and_self, true_or, or_true, dite_true, dite_false, Φr, Φs, decide_eq_true_eq, decide_eq_false_iff_not, Φt, Φu, Φv, Φw, beq_self_eq_true, Φx, Φy, Φz, ΦA, ΦB, eq_self, VCplan, ΦC, ΦD, VCops, VQops, guardVC, putVC, VC, VQ, ΦE, ΦF, ΦG, ΦH, ΦI, ΦJ, ΦK, List.getElem?_cons_zero, List.getElem?_cons_succ, List.getElem?_nil, List.getElem?_toArray, ΦL, ΦM, ΦN, ΦO, ΦP, ΦQ, ΦR, ΦS, ΦT, ΦU, ΦV, ΦW, ΦX, ΦY, ΦZ, Ψa, Ψb, Ψc, Ψd, Ψe, Ψf, Ψg, Ψh, Ψi, Ψj, Ψk, Ψl, exists_eq_left, exists_eq_left', exists_const, existsSome, Ψm, Ψn, hP]
  refine hK2 _ _ ?_
  try clear hK2 K2
  refine SX.seq_k fun K3 hK3 => ?_
  refine SX.region ?_
  simp (maxSteps := 1000000) only [Φa, Φb, Φc, Φd, ev, Φe, Φf, Φg, Φh, Φi, Φj, Φk, Φl, reduceIte, reduceCtorEq, if_true, if_false, Φm, Φn, Φo, Φp, true_and, and_true, false_and, and_false, true_implies, forall_const, false_implies, ne_eq, not_true_eq_false, not_false_eq_true, decide_true, decide_false, Φq, and_self, true_or, or_true, dite_true, dite_false, Φr, Φs, decide_eq_true_eq, decide_eq_false_iff_not, Φt, Φu, Φv, Φw, beq_self_eq_true, Φx, Φy, Φz, ΦA, ΦB, eq_self, VCplan, ΦC, ΦD, VCops, VQops, guardVC, putVC, VC, VQ, ΦE, ΦF, ΦG, ΦH, ΦI, ΦJ, ΦK, List.getElem?_cons_zero, List.getElem?_cons_succ, List.getElem?_nil, List.getElem?_toArray, ΦL, ΦM, ΦN, ΦO, ΦP, ΦQ, ΦR, ΦS, ΦT, ΦU, ΦV, ΦW, ΦX, ΦY, ΦZ, Ψa, Ψb, Ψc, Ψd, Ψe, Ψf, Ψg, Ψh, Ψi, Ψj, Ψk, Ψl, exists_eq_left, exists_eq_left', exists_const, existsSome, Ψm, Ψn, hP]
  refine hK3 _ _ ?_
  try clear hK3 K3
  refine SX.seq_k fun K4 hK4 => ?_
  refine SX.region ?_
  simp (maxSteps := 1000000) only [Φa, Φb, Φc, Φd, ev, Φe, Φf, Φg, Φh, Φi, Φj, Φk, Φl, reduceIte, reduceCtorEq, if_true, if_false, Φm, Φn, Φo, Φp, true_and, and_true, false_and, and_false, true_implies, forall_const, false_implies, ne_eq, not_true_eq_false, not_false_eq_true, decide_true, decide_false, Φq, and_self, true_or, or_true, dite_true, dite_false, Φr, Φs, decide_eq_true_eq, decide_eq_false_iff_not, Φt, Φu, Φv, Φw, beq_self_eq_true, Φx, Φy, Φz, ΦA, ΦB, eq_self, VCplan, ΦC, ΦD, VCops, VQops, guardVC, putVC, VC, VQ, ΦE, ΦF, ΦG, ΦH, ΦI, ΦJ, ΦK, List.getElem?_cons_zero, List.getElem?_cons_succ, List.getElem?_nil, List.getElem?_toArray, ΦL, ΦM, ΦN, ΦO, ΦP, ΦQ, ΦR, ΦS, ΦT, ΦU, ΦV, ΦW, ΦX, ΦY, ΦZ, Ψa, Ψb, Ψc, Ψd, Ψe, Ψf, Ψg, Ψh, Ψi, Ψj, Ψk, Ψl, exists_eq_left, exists_eq_left', exists_const, existsSome, Ψm, Ψn, hP]
  refine hK4 _ _ ?_
  try clear hK4 K4
  refine SX.seq_k fun K5 hK5 => ?_
  refine SX.seq_k fun K6 hK6 => ?_
  refine SX.region ?_
  simp (maxSteps := 1000000) only [Φa, Φb, Φc, Φd, ev, Φe, Φf, Φg, Φh, Φi, Φj, Φk, Φl, reduceIte, reduceCtorEq, if_true, if_false, Φm, Φn, Φo, Φp, true_and, and_true, false_and, and_false, true_implies, forall_const, false_implies, ne_eq, not_true_eq_false, not_false_eq_true, decide_true, decide_false, Φq, and_self, true_or, or_true, dite_true, dite_false, Φr, Φs, decide_eq_true_eq, decide_eq_false_iff_not, Φt, Φu, Φv, Φw, beq_self_eq_true, Φx, Φy, Φz, ΦA, ΦB, eq_self, VCplan, ΦC, ΦD, VCops, VQops, guardVC, putVC, VC, VQ, ΦE, ΦF, ΦG, ΦH, ΦI, ΦJ, ΦK, List.getElem?_cons_zero, List.getElem?_cons_succ, List.getElem?_nil, List.getElem?_toArray, ΦL, ΦM, ΦN, ΦO, ΦP, ΦQ, ΦR, ΦS, ΦT, ΦU, ΦV, ΦW, ΦX, ΦY, ΦZ, Ψa, Ψb, Ψc, Ψd, Ψe, Ψf, Ψg, Ψh, Ψi, Ψj, Ψk, Ψl, exists_eq_left, exists_eq_left', exists_const, existsSome, Ψm, Ψn, hP]
  refine hK6 _ _ ?_
  try clear hK6 K6
  refine SX.block ?_
  refine SX.less (Less.none _) ?_
  refine SX.live [0, 3, 4, 5, 6] (fun T1 hT1 => ?_)
  simp only [forall_mem_cons', forall_mem_nil', Φa, Φb, Φc, Φd, ev, Φe, Φf, Φg, Φh, Φi, Φj, Φk, Φl, reduceIte, reduceCtorEq, if_true, if_false, Φm, Φn, Φo, Φp, true_and, and_true, false_and, and_false, true_implies, forall_const, false_implies, ne_eq, not_true_eq_false, not_false_eq_true, decide_true, decide_false, Φq, and_self, true_or, or_true, dite_true, dite_false, Φr, Φs, decide_eq_true_eq, decide_eq_false_iff_not, Φt, Φu, Φv, Φw, beq_self_eq_true, Φx, Φy, Φz, ΦA, ΦB, eq_self, hP] at hT1
  obtain ⟨h1_0, h1_3, h1_4, h1_5, h1_6⟩ := hT1
  refine SX.loop_k (fun (ss : (Nat) × (Value) × (Slot) × (List Int) × (Bool) × (Nat)) T L' => (fun (i : Nat) (v : Value) (s : Slot) (out : List Int) (q : Bool) (n : Nat) => T 3 = v ∧ T 4 = .bool q ∧ T 5 = .int .i64 (n : Int) ∧ T 6 = .int .i64 (i : Int) ∧ T 0 = T1 0 ∧ L' = s :: L ∧ (i ≤ qs.length ∧ fin (refFold (out, q, n) (qs.drop i)) = refLev qs ∧ RowI .i64 3 v out s ∧ out.length ≤ i ∧ n ≤ i)) (ss.1) (ss.2.1) (ss.2.2.1) (ss.2.2.2.1) (ss.2.2.2.2.1) (ss.2.2.2.2.2)) (fun (ss : (Nat) × (Value) × (Slot) × (List Int) × (Bool) × (Nat)) => (fun (i : Nat) (v : Value) (s : Slot) (out : List Int) (q : Bool) (n : Nat) => qs.length - i) (ss.1) (ss.2.1) (ss.2.2.1) (ss.2.2.2.1) (ss.2.2.2.2.1) (ss.2.2.2.2.2)) (0, .slice none 0 0, none, [], false, 0) ?_ ?_
  · try dsimp only
    refine ⟨?_, ?_, ?_, ?_, ?_, ?_, ?_⟩
    · first | exact h1_3 | (rw [h1_3]; rfl) | (rw [h1_3]; simp; done)
    · first | exact h1_4 | (rw [h1_4]; rfl) | (rw [h1_4]; simp; done)
    · first | exact h1_5 | (rw [h1_5]; rfl) | (rw [h1_5]; simp; done)
    · first | exact h1_6 | (rw [h1_6]; rfl) | (rw [h1_6]; simp; done)
    · rfl
    · rfl
    · exact ⟨Nat.zero_le _, rfl, RowI.nil _ _, Nat.le_refl _, Nat.le_refl _⟩
  · intro ss T2 L2 hI K7 hK7
    obtain ⟨i, v, s, out, q, n⟩ := ss
    try dsimp only at hI hK7
    simp only [h1_0] at hI hK7
    obtain ⟨h2_3, h2_4, h2_5, h2_6, h2_0, hL2, ⟨hi, hfin, hrow, hol, hni⟩⟩ := hI
    replace hL2 := hL2.symm
    subst hL2
    clear h1_0 h1_3 h1_4 h1_5 h1_6 T1
    refine SX.seq_k fun K8 hK8 => ?_
    refine SX.seq_k fun K9 hK9 => ?_
    refine SX.region ?_
    simp (maxSteps := 1000000) only [Φa, Φb, Φc, Φd, ev, Φe, Φf, Φg, Φh, Φi, Φj, Φk, Φl, reduceIte, reduceCtorEq, if_true, if_false, Φm, Φn, Φo, Φp, true_and, and_true, false_and, and_false, true_implies, forall_const, false_implies, ne_eq, not_true_eq_false, not_false_eq_true, decide_true, decide_false, Φq, and_self, true_or, or_true, dite_true, dite_false, Φr, Φs, decide_eq_true_eq, decide_eq_false_iff_not, Φt, Φu, Φv, Φw, beq_self_eq_true, Φx, Φy, Φz, ΦA, ΦB, eq_self, VCplan, ΦC, ΦD, VCops, VQops, guardVC, putVC, VC, VQ, ΦE, ΦF, ΦG, ΦH, ΦI, ΦJ, ΦK, List.getElem?_cons_zero, List.getElem?_cons_succ, List.getElem?_nil, List.getElem?_toArray, ΦL, ΦM, ΦN, ΦO, ΦP, ΦQ, ΦR, ΦS, ΦT, ΦU, ΦV, ΦW, ΦX, ΦY, ΦZ, Ψa, Ψb, Ψc, Ψd, Ψe, Ψf, Ψg, Ψh, Ψi, Ψj, Ψk, Ψl, exists_eq_left, exists_eq_left', exists_const, existsSome, Ψm, Ψn, qcall_f, call_f, len_slice, len_str, cap_slice, min_int, max_int, T.elS_22, T.szA_22, T.zr_22, Try.underlying22, bin_lss, hP, h2_3, h2_4, h2_5, h2_6, h2_0]
    refine hK9 _ _ ?_
    try clear hK9 K9
    refine SX.cond_k fun X10 Y10 hX10 hY10 => ?_
    simp (maxSteps := 1000000) only [Φa, Φb, Φc, Φd, ev, Φe, Φf, Φg, Φh, Φi, Φj, Φk, Φl, reduceIte, reduceCtorEq, if_true, if_false, Φm, Φn, Φo, Φp, true_and, and_true, false_and, and_false, true_implies, forall_const, false_implies, ne_eq, not_true_eq_false, not_false_eq_true, decide_true, decide_false, Φq, and_self, true_or, or_true, dite_true, dite_false, Φr, Φs, decide_eq_true_eq, decide_eq_false_iff_not, Φt, Φu, Φv, Φw, beq_self_eq_true, Φx, Φy, Φz, ΦA, ΦB, eq_self, hP, h2_3, h2_4, h2_5, h2_6, h2_0, condVC]
    refine ⟨fun hc10 => hX10 ?_, fun hc10 => hY10 ?_⟩
    · clear hX10 hY10 X10 Y10
      refine SX.skip ?_
      try simp only [Φe, Φf, Φg, Φh, Φi, Φj, Φk, if_true, if_false, reduceIte]
      refine hK8 _ _ ?_
      try clear hK8 K8
      refine SX.seq_k fun K11 hK11 => ?_
      refine SX.block ?_
      refine SX.live [0, 3, 4, 5, 6] (fun T3 hT3 => ?_)
      simp only [forall_mem_cons', forall_mem_nil', Φa, Φb, Φc, Φd, ev, Φe, Φf, Φg, Φh, Φi, Φj, Φk, Φl, reduceIte, reduceCtorEq, if_true, if_false, Φm, Φn, Φo, Φp, true_and, and_true, false_and, and_false, true_implies, forall_const, false_implies, ne_eq, not_true_eq_false, not_false_eq_true, decide_true, decide_false, Φq, and_self, true_or, or_true, dite_true, dite_false, Φr, Φs, decide_eq_true_eq, decide_eq_false_iff_not, Φt, Φu, Φv, Φw, beq_self_eq_true, Φx, Φy, Φz, ΦA, ΦB, eq_self, hP, h2_3, h2_4, h2_5, h2_6, h2_0] at hT3
      obtain ⟨h3_0, h3_3, h3_4, h3_5, h3_6⟩ := hT3
      clear h2_3 h2_4 h2_5 h2_6 h2_0 T2
      refine SX.join (fun (ss : (Value) × (Slot) × (List Int) × (Bool) × (Nat)) T L' => (fun (v1 : Value) (s1 : Slot) (out1 : List Int) (q1 : Bool) (n1 : Nat) => T 3 = v1 ∧ T 4 = .bool q1 ∧ T 5 = .int .i64 (n1 : Int) ∧ T 0 = T3 0 ∧ T 6 = T3 6 ∧ L' = s1 :: L ∧ (refStep (out, q, n) (qs.getD i false) = (out1, q1, n1 + 1) ∧ RowI .i64 3 v1 out1 s1 ∧ out1.length ≤ i + 1 ∧ n1 ≤ i)) (ss.1) (ss.2.1) (ss.2.2.1) (ss.2.2.2.1) (ss.2.2.2.2)) (fun K12 hK12 => ?_) ?_
      · simp only [h3_0, h3_6] at hK12
        refine SX.seq_k fun K13 hK13 => ?_
        obtain ⟨a, ha, hcell⟩ := hq i (by omega)
        refine SX.region ?_
        simp (maxSteps := 1000000) only [Φa, Φb, Φc, Φd, ev, Φe, Φf, Φg, Φh, Φi, Φj, Φk, Φl, reduceIte, reduceCtorEq, if_true, if_false, Φm, Φn, Φo, Φp, true_and, and_true, false_and, and_false, true_implies, forall_const, false_implies, ne_eq, not_true_eq_false, not_false_eq_true, decide_true, decide_false, Φq, and_self, true_or, or_true, dite_true, dite_false, Φr, Φs, decide_eq_true_eq, decide_eq_false_iff_not, Φt, Φu, Φv, Φw, beq_self_eq_true, Φx, Φy, Φz, ΦA, ΦB, eq_self, VCplan, ΦC, ΦD, VCops, VQops, guardVC, putVC, VC, VQ, ΦE, ΦF, ΦG, ΦH, ΦI, ΦJ, ΦK, List.getElem?_cons_zero, List.getElem?_cons_succ, List.getElem?_nil, List.getElem?_toArray, ΦL, ΦM, ΦN, ΦO, ΦP, ΦQ, ΦR, ΦS, ΦT, ΦU, ΦV, ΦW, ΦX, ΦY, ΦZ, Ψa, Ψb, Ψc, Ψd, Ψe, Ψf, Ψg, Ψh, Ψi, Ψj, Ψk, Ψl, exists_eq_left, exists_eq_left', exists_const, existsSome, Ψm, Ψn, ia_slice, ia_arr, Addr.add_lit, Addr.add_zero', add_addS, Int.toNat_natCast, Int.toNat_zero, Int.toNat_one, Int.reduceToNat, T.elS_22, T.szA_22, T.zr_22, Try.underlying22, fa_ptr, T.elA_41, T.lay_41, T.szA_41, T.zr_41, Try.underlying41, ld_ptr, loadVC, loadN, T.szA_4, T.zr_4, Try.underlying4, bin_neq, bin_neqb, bin_neqs, bin_neqa, hP, h3_0, h3_3, h3_4, h3_5, h3_6]
        refine ⟨⟨by omega, by omega⟩, a, ha, _, Cell.cons _ hcell, ?_⟩
        try simp (maxSteps := 1000000) only [Φa, Φb, Φc, Φd, ev, Φe, Φf, Φg, Φh, Φi, Φj, Φk, Φl, reduceIte, reduceCtorEq, if_true, if_false, Φm, Φn, Φo, Φp, true_and, and_true, false_and, and_false, true_implies, forall_const, false_implies, ne_eq, not_true_eq_false, not_false_eq_true, decide_true, decide_false, Φq, and_self, true_or, or_true, dite_true, dite_false, Φr, Φs, decide_eq_true_eq, decide_eq_false_iff_not, Φt, Φu, Φv, Φw, beq_self_eq_true, Φx, Φy, Φz, ΦA, ΦB, eq_self, VCplan, ΦC, ΦD, VCops, VQops, guardVC, putVC, VC, VQ, ΦE, ΦF, ΦG, ΦH, ΦI, ΦJ, ΦK, List.getElem?_cons_zero, List.getElem?_cons_succ, List.getElem?_nil, List.getElem?_toArray, ΦL, ΦM, ΦN, ΦO, ΦP, ΦQ, ΦR, ΦS, ΦT, ΦU, ΦV, ΦW, ΦX, ΦY, ΦZ, Ψa, Ψb, Ψc, Ψd, Ψe, Ψf, Ψg, Ψh, Ψi, Ψj, Ψk, Ψl, exists_eq_left, exists_eq_left', exists_const, existsSome, Ψm, Ψn, ia_slice, ia_arr, Addr.add_lit, Addr.add_zero', add_addS, Int.toNat_natCast, Int.toNat_zero, Int.toNat_one, Int.reduceToNat, T.elS_22, T.szA_22, T.zr_22, Try.underlying22, fa_ptr, T.elA_41, T.lay_41, T.szA_41, T.zr_41, Try.underlying41, ld_ptr, loadVC, loadN, T.szA_4, T.zr_4, Try.underlying4, bin_neq, bin_neqb, bin_neqs, bin_neqa, hP, h3_0, h3_3, h3_4, h3_5, h3_6]
        refine hK13 _ _ ?_
        try clear hK13 K13
        refine SX.cond_k fun X14 Y14 hX14 hY14 => ?_
        simp (maxSteps := 1000000) only [Φa, Φb, Φc, Φd, ev, Φe, Φf, Φg, Φh, Φi, Φj, Φk, Φl, reduceIte, reduceCtorEq, if_true, if_false, Φm, Φn, Φo, Φp, true_and, and_true, false_and, and_false, true_implies, forall_const, false_implies, ne_eq, not_true_eq_false, not_false_eq_true, decide_true, decide_false, Φq, and_self, true_or, or_true, dite_true, dite_false, Φr, Φs, decide_eq_true_eq, decide_eq_false_iff_not, Φt, Φu, Φv, Φw, beq_self_eq_true, Φx, Φy, Φz, ΦA, ΦB, eq_self, hP, h3_0, h3_3, h3_4, h3_5, h3_6, condVC]
        refine ⟨fun hc19 => hX14 ?_, fun hc19 => hY14 ?_⟩
        · clear hX14 hY14 X14 Y14
          refine SX.seq_k fun K15 hK15 => ?_
          refine SX.region ?_
          simp (maxSteps := 1000000) only [Φa, Φb, Φc, Φd, ev, Φe, Φf, Φg, Φh, Φi, Φj, Φk, Φl, reduceIte, reduceCtorEq, if_true, if_false, Φm, Φn, Φo, Φp, true_and, and_true, false_and, and_false, true_implies, forall_const, false_implies, ne_eq, not_true_eq_false, not_false_eq_true, decide_true, decide_false, Φq, and_self, true_or, or_true, dite_true, dite_false, Φr, Φs, decide_eq_true_eq, decide_eq_false_iff_not, Φt, Φu, Φv, Φw, beq_self_eq_true, Φx, Φy, Φz, ΦA, ΦB, eq_self, VCplan, ΦC, ΦD, VCops, VQops, guardVC, putVC, VC, VQ, ΦE, ΦF, ΦG, ΦH, ΦI, ΦJ, ΦK, List.getElem?_cons_zero, List.getElem?_cons_succ, List.getElem?_nil, List.getElem?_toArray, ΦL, ΦM, ΦN, ΦO, ΦP, ΦQ, ΦR, ΦS, ΦT, ΦU, ΦV, ΦW, ΦX, ΦY, ΦZ, Ψa, Ψb, Ψc, Ψd, Ψe, Ψf, Ψg, Ψh, Ψi, Ψj, Ψk, Ψl, exists_eq_left, exists_eq_left', exists_const, existsSome, Ψm, Ψn, partVC, buildVC, placeL, fillL, setN, inOrd, catV, cells_int, cells_bool, cells_string, cells_pointer, cells_slice, cells_agg, oneB_nil, oneB_cons, one_int, one_bool, one_string, one_pointer, one_slice, one_map, one_func, one_nilFunc, one_nilIface, one_iface, cells_map, cells_func, cells_nilFunc, cells_nilIface, cells_iface, T.elS_35, T.szA_35, T.zr_35, Try.underlying35, T.szA_3, T.zr_3, Try.underlying3, qcall_f, call_f, len_slice, len_str, cap_slice, min_int, max_int, hP, h3_0, h3_3, h3_4, h3_5, h3_6]
          intro bb
          refine YAppend.int1 (i := 0) (hP ▸ T.elS_35) (hP ▸ T.zr_3) rfl rfl hrow (by omega) (by decide) (fun v2 s2 hrow2 => ?_)
          try simp (maxSteps := 1000000) only [Φa, Φb, Φc, Φd, ev, Φe, Φf, Φg, Φh, Φi, Φj, Φk, Φl, reduceIte, reduceCtorEq, if_true, if_false, Φm, Φn, Φo, Φp, true_and, and_true, false_and, and_false, true_implies, forall_const, false_implies, ne_eq, not_true_eq_false, not_false_eq_true, decide_true, decide_false, Φq, and_self, true_or, or_true, dite_true, dite_false, Φr, Φs, decide_eq_true_eq, decide_eq_false_iff_not, Φt, Φu, Φv, Φw, beq_self_eq_true, Φx, Φy, Φz, ΦA, ΦB, eq_self, VCplan, ΦC, ΦD, VCops, VQops, guardVC, putVC, VC, VQ, ΦE, ΦF, ΦG, ΦH, ΦI, ΦJ, ΦK, List.getElem?_cons_zero, List.getElem?_cons_succ, List.getElem?_nil, List.getElem?_toArray, ΦL, ΦM, ΦN, ΦO, ΦP, ΦQ, ΦR, ΦS, ΦT, ΦU, ΦV, ΦW, ΦX, ΦY, ΦZ, Ψa, Ψb, Ψc, Ψd, Ψe, Ψf, Ψg, Ψh, Ψi, Ψj, Ψk, Ψl, exists_eq_left, exists_eq_left', exists_const, existsSome, Ψm, Ψn, partVC, buildVC, placeL, fillL, setN, inOrd, catV, cells_int, cells_bool, cells_string, cells_pointer, cells_slice, cells_agg, oneB_nil, oneB_cons, one_int, one_bool, one_string, one_pointer, one_slice, one_map, one_func, one_nilFunc, one_nilIface, one_iface, cells_map, cells_func, cells_nilFunc, cells_nilIface, cells_iface, T.elS_35, T.szA_35, T.zr_35, Try.underlying35, T.szA_3, T.zr_3, Try.underlying3, qcall_f, call_f, len_slice, len_str, cap_slice, min_int, max_int, hP, h3_0, h3_3, h3_4, h3_5, h3_6]
          refine hK15 _ _ ?_
          try clear hK15 K15
          refine SX.live [0, 3, 6] (fun T4 hT4 => ?_)
          simp only [forall_mem_cons', forall_mem_nil', Φa, Φb, Φc, Φd, ev, Φe, Φf, Φg, Φh, Φi, Φj, Φk, Φl, reduceIte, reduceCtorEq, if_true, if_false, Φm, Φn, Φo, Φp, true_and, and_true, false_and, and_false, true_implies, forall_const, false_implies, ne_eq, not_true_eq_false, not_false_eq_true, decide_true, decide_false, Φq, and_self, true_or, or_true, dite_true, dite_false, Φr, Φs, decide_eq_true_eq, decide_eq_false_iff_not, Φt, Φu, Φv, Φw, beq_self_eq_true, Φx, Φy, Φz, ΦA, ΦB, eq_self, hP, h3_0, h3_3, h3_4, h3_5, h3_6] at hT4
          obtain ⟨h4_0, h4_3, h4_6⟩ := hT4
          clear h3_0 h3_3 h3_4 h3_5 h3_6 T3
          refine SX.seq_k fun K16 hK16 => ?_
          refine SX.region ?_
          simp (maxSteps := 1000000) only [Φa, Φb, Φc, Φd, ev, Φe, Φf, Φg, Φh, Φi, Φj, Φk, Φl, reduceIte, reduceCtorEq, if_true, if_false, Φm, Φn, Φo, Φp, true_and, and_true, false_and, and_false, true_implies, forall_const, false_implies, ne_eq, not_true_eq_false, not_false_eq_true, decide_true, decide_false, Φq, and_self, true_or, or_true, dite_true, dite_false, Φr, Φs, decide_eq_true_eq, decide_eq_false_iff_not, Φt, Φu, Φv, Φw, beq_self_eq_true, Φx, Φy, Φz, ΦA, ΦB, eq_self, VCplan, ΦC, ΦD, VCops, VQops, guardVC, putVC, VC, VQ, ΦE, ΦF, ΦG, ΦH, ΦI, ΦJ, ΦK, List.getElem?_cons_zero, List.getElem?_cons_succ, List.getElem?_nil, List.getElem?_toArray, ΦL, ΦM, ΦN, ΦO, ΦP, ΦQ, ΦR, ΦS, ΦT, ΦU, ΦV, ΦW, ΦX, ΦY, ΦZ, Ψa, Ψb, Ψc, Ψd, Ψe, Ψf, Ψg, Ψh, Ψi, Ψj, Ψk, Ψl, exists_eq_left, exists_eq_left', exists_const, existsSome, Ψm, Ψn, hP, h4_0, h4_3, h4_6]
          refine hK16 _ _ ?_
          try clear hK16 K16
          refine SX.region ?_
          simp (maxSteps := 1000000) only [Φa, Φb, Φc, Φd, ev, Φe, Φf, Φg, Φh, Φi, Φj, Φk, Φl, reduceIte, reduceCtorEq, if_true, if_false, Φm, Φn, Φo, Φp, true_and, and_true, false_and, and_false, true_implies, forall_const, false_implies, ne_eq, not_true_eq_false, not_false_eq_true, decide_true, decide_false, Φq, and_self, true_or, or_true, dite_true, dite_false, Φr, Φs, decide_eq_true_eq, decide_eq_false_iff_not, Φt, Φu, Φv, Φw, beq_self_eq_true, Φx, Φy, Φz, ΦA, ΦB, eq_self, VCplan, ΦC, ΦD, VCops, VQops, guardVC, putVC, VC, VQ, ΦE, ΦF, ΦG, ΦH, ΦI, ΦJ, ΦK, List.getElem?_cons_zero, List.getElem?_cons_succ, List.getElem?_nil, List.getElem?_toArray, ΦL, ΦM, ΦN, ΦO, ΦP, ΦQ, ΦR, ΦS, ΦT, ΦU, ΦV, ΦW, ΦX, ΦY, ΦZ, Ψa, Ψb, Ψc, Ψd, Ψe, Ψf, Ψg, Ψh, Ψi, Ψj, Ψk, Ψl, exists_eq_left, exists_eq_left', exists_const, existsSome, Ψm, Ψn, ia_slice, ia_arr, Addr.add_lit, Addr.add_zero', add_addS, Int.toNat_natCast, Int.toNat_zero, Int.toNat_one, Int.reduceToNat, T.elS_22, T.szA_22, T.zr_22, Try.underlying22, fa_ptr, T.elA_41, T.lay_41, T.szA_41, T.zr_41, Try.underlying41, ld_ptr, loadVC, loadN, T.szA_4, T.zr_4, Try.underlying4, hP, h4_0, h4_3, h4_6]
          refine ⟨⟨by omega, by omega⟩, a, ha, _, Cell.cons _ (Cell.cons _ hcell), ?_⟩
          try simp (maxSteps := 1000000) only [Φa, Φb, Φc, Φd, ev, Φe, Φf, Φg, Φh, Φi, Φj, Φk, Φl, reduceIte, reduceCtorEq, if_true, if_false, Φm, Φn, Φo, Φp, true_and, and_true, false_and, and_false, true_implies, forall_const, false_implies, ne_eq, not_true_eq_false, not_false_eq_true, decide_true, decide_false, Φq, and_self, true_or, or_true, dite_true, dite_false, Φr, Φs, decide_eq_true_eq, decide_eq_false_iff_not, Φt, Φu, Φv, Φw, beq_self_eq_true, Φx, Φy, Φz, ΦA, ΦB, eq_self, VCplan, ΦC, ΦD, VCops, VQops, guardVC, putVC, VC, VQ, ΦE, ΦF, ΦG, ΦH, ΦI, ΦJ, ΦK, List.getElem?_cons_zero, List.getElem?_cons_succ, List.getElem?_nil, List.getElem?_toArray, ΦL, ΦM, ΦN, ΦO, ΦP, ΦQ, ΦR, ΦS, ΦT, ΦU, ΦV, ΦW, ΦX, ΦY, ΦZ, Ψa, Ψb, Ψc, Ψd, Ψe, Ψf, Ψg, Ψh, Ψi, Ψj, Ψk, Ψl, exists_eq_left, exists_eq_left', exists_const, existsSome, Ψm, Ψn, ia_slice, ia_arr, Addr.add_lit, Addr.add_zero', add_addS, Int.toNat_natCast, Int.toNat_zero, Int.toNat_one, Int.reduceToNat, T.elS_22, T.szA_22, T.zr_22, Try.underlying22, fa_ptr, T.elA_41, T.lay_41, T.szA_41, T.zr_41, Try.underlying41, ld_ptr, loadVC, loadN, T.szA_4, T.zr_4, Try.underlying4, hP, h4_0, h4_3, h4_6]
          refine hK12 (v2, s2, (out ++ [(n : Int)]), (qs.getD i false), 0) _ (s2 :: L) _ (by first | exact Less.refl _ | exact Less.drop _ _ | exact Less.drops (Less.drop _ _) | exact Less.drops (Less.drops (Less.drop _ _)) | exact Less.drops (Less.drops (Less.drops (Less.drop _ _))) | exact Less.drops (Less.drops (Less.drops (Less.drops (Less.drop _ _))))) ?_
          try dsimp only
          refine ⟨?_, ?_, ?_, ?_, ?_, ?_, ?_⟩
          · simp (maxSteps := 1000000) only [Φa, Φb, Φc, Φd, ev, Φe, Φf, Φg, Φh, Φi, Φj, Φk, Φl, reduceIte, reduceCtorEq, if_true, if_false, Φm, Φn, Φo, Φp, true_and, and_true, false_and, and_false, true_implies, forall_const, false_implies, ne_eq, not_true_eq_false, not_false_eq_true, decide_true, decide_false, Φq, and_self, true_or, or_true, dite_true, dite_false, Φr, Φs, decide_eq_true_eq, decide_eq_false_iff_not, Φt, Φu, Φv, Φw, beq_self_eq_true, Φx, Φy, Φz, ΦA, ΦB, eq_self, hP, h4_0, h4_3, h4_6]
            first | done | rfl | skip
          · simp (maxSteps := 1000000) only [Φa, Φb, Φc, Φd, ev, Φe, Φf, Φg, Φh, Φi, Φj, Φk, Φl, reduceIte, reduceCtorEq, if_true, if_false, Φm, Φn, Φo, Φp, true_and, and_true, false_and, and_false, true_implies, forall_const, false_implies, ne_eq, not_true_eq_false, not_false_eq_true, decide_true, decide_false, Φq, and_self, true_or, or_true, dite_true, dite_false, Φr, Φs, decide_eq_true_eq, decide_eq_false_iff_not, Φt, Φu, Φv, Φw, beq_self_eq_true, Φx, Φy, Φz, ΦA, ΦB, eq_self, hP, h4_0, h4_3, h4_6]
            first | done | rfl | skip
          · simp (maxSteps := 1000000) only [Φa, Φb, Φc, Φd, ev, Φe, Φf, Φg, Φh, Φi, Φj, Φk, Φl, reduceIte, reduceCtorEq, if_true, if_false, Φm, Φn, Φo, Φp, true_and, and_true, false_and, and_false, true_implies, forall_const, false_implies, ne_eq, not_true_eq_false, not_false_eq_true, decide_true, decide_false, Φq, and_self, true_or, or_true, dite_true, dite_false, Φr, Φs, decide_eq_true_eq, decide_eq_false_iff_not, Φt, Φu, Φv, Φw, beq_self_eq_true, Φx, Φy, Φz, ΦA, ΦB, eq_self, hP, h4_0, h4_3, h4_6]
            first | done | rfl | skip
          · simp (maxSteps := 1000000) only [Φa, Φb, Φc, Φd, ev, Φe, Φf, Φg, Φh, Φi, Φj, Φk, Φl, reduceIte, reduceCtorEq, if_true, if_false, Φm, Φn, Φo, Φp, true_and, and_true, false_and, and_false, true_implies, forall_const, false_implies, ne_eq, not_true_eq_false, not_false_eq_true, decide_true, decide_false, Φq, and_self, true_or, or_true, dite_true, dite_false, Φr, Φs, decide_eq_true_eq, decide_eq_false_iff_not, Φt, Φu, Φv, Φw, beq_self_eq_true, Φx, Φy, Φz, ΦA, ΦB, eq_self, hP, h4_0, h4_3, h4_6]
          · simp (maxSteps := 1000000) only [Φa, Φb, Φc, Φd, ev, Φe, Φf, Φg, Φh, Φi, Φj, Φk, Φl, reduceIte, reduceCtorEq, if_true, if_false, Φm, Φn, Φo, Φp, true_and, and_true, false_and, and_false, true_implies, forall_const, false_implies, ne_eq, not_true_eq_false, not_false_eq_true, decide_true, decide_false, Φq, and_self, true_or, or_true, dite_true, dite_false, Φr, Φs, decide_eq_true_eq, decide_eq_false_iff_not, Φt, Φu, Φv, Φw, beq_self_eq_true, Φx, Φy, Φz, ΦA, ΦB, eq_self, hP, h4_0, h4_3, h4_6]
          · rfl
          · refine ⟨?_, hrow2, by rw [List.length_append]; simp; omega, by omega⟩
            rw [refStep, if_neg (by simpa using hc19)]
        · clear hX14 hY14 X14 Y14
          refine SX.skip ?_
          try simp only [Φe, Φf, Φg, Φh, Φi, Φj, Φk, if_true, if_false, reduceIte]
          refine hK12 (v, s, out, q, n) _ (s :: L) _ (by first | exact Less.refl _ | exact Less.drop _ _ | exact Less.drops (Less.drop _ _) | exact Less.drops (Less.drops (Less.drop _ _)) | exact Less.drops (Less.drops (Less.drops (Less.drop _ _))) | exact Less.drops (Less.drops (Less.drops (Less.drops (Less.drop _ _))))) ?_
          try dsimp only
          refine ⟨?_, ?_, ?_, ?_, ?_, ?_, ?_⟩
          · simp (maxSteps := 1000000) only [Φa, Φb, Φc, Φd, ev, Φe, Φf, Φg, Φh, Φi, Φj, Φk, Φl, reduceIte, reduceCtorEq, if_true, if_false, Φm, Φn, Φo, Φp, true_and, and_true, false_and, and_false, true_implies, forall_const, false_implies, ne_eq, not_true_eq_false, not_false_eq_true, decide_true, decide_false, Φq, and_self, true_or, or_true, dite_true, dite_false, Φr, Φs, decide_eq_true_eq, decide_eq_false_iff_not, Φt, Φu, Φv, Φw, beq_self_eq_true, Φx, Φy, Φz, ΦA, ΦB, eq_self, hP, h3_0, h3_3, h3_4, h3_5, h3_6]
            first | done | rfl | skip
          · simp (maxSteps := 1000000) only [Φa, Φb, Φc, Φd, ev, Φe, Φf, Φg, Φh, Φi, Φj, Φk, Φl, reduceIte, reduceCtorEq, if_true, if_false, Φm, Φn, Φo, Φp, true_and, and_true, false_and, and_false, true_implies, forall_const, false_implies, ne_eq, not_true_eq_false, not_false_eq_true, decide_true, decide_false, Φq, and_self, true_or, or_true, dite_true, dite_false, Φr, Φs, decide_eq_true_eq, decide_eq_false_iff_not, Φt, Φu, Φv, Φw, beq_self_eq_true, Φx, Φy, Φz, ΦA, ΦB, eq_self, hP, h3_0, h3_3, h3_4, h3_5, h3_6]
            first | done | rfl | skip
          · simp (maxSteps := 1000000) only [Φa, Φb, Φc, Φd, ev, Φe, Φf, Φg, Φh, Φi, Φj, Φk, Φl, reduceIte, reduceCtorEq, if_true, if_false, Φm, Φn, Φo, Φp, true_and, and_true, false_and, and_false, true_implies, forall_const, false_implies, ne_eq, not_true_eq_false, not_false_eq_true, decide_true, decide_false, Φq, and_self, true_or, or_true, dite_true, dite_false, Φr, Φs, decide_eq_true_eq, decide_eq_false_iff_not, Φt, Φu, Φv, Φw, beq_self_eq_true, Φx, Φy, Φz, ΦA, ΦB, eq_self, hP, h3_0, h3_3, h3_4, h3_5, h3_6]
            first | done | rfl | skip
          · simp (maxSteps := 1000000) only [Φa, Φb, Φc, Φd, ev, Φe, Φf, Φg, Φh, Φi, Φj, Φk, Φl, reduceIte, reduceCtorEq, if_true, if_false, Φm, Φn, Φo, Φp, true_and, and_true, false_and, and_false, true_implies, forall_const, false_implies, ne_eq, not_true_eq_false, not_false_eq_true, decide_true, decide_false, Φq, and_self, true_or, or_true, dite_true, dite_false, Φr, Φs, decide_eq_true_eq, decide_eq_false_iff_not, Φt, Φu, Φv, Φw, beq_self_eq_true, Φx, Φy, Φz, ΦA, ΦB, eq_self, hP, h3_0, h3_3, h3_4, h3_5, h3_6]
          · simp (maxSteps := 1000000) only [Φa, Φb, Φc, Φd, ev, Φe, Φf, Φg, Φh, Φi, Φj, Φk, Φl, reduceIte, reduceCtorEq, if_true, if_false, Φm, Φn, Φo, Φp, true_and, and_true, false_and, and_false, true_implies, forall_const, false_implies, ne_eq, not_true_eq_false, not_false_eq_true, decide_true, decide_false, Φq, and_self, true_or, or_true, dite_true, dite_false, Φr, Φs, decide_eq_true_eq, decide_eq_false_iff_not, Φt, Φu, Φv, Φw, beq_self_eq_true, Φx, Φy, Φz, ΦA, ΦB, eq_self, hP, h3_0, h3_3, h3_4, h3_5, h3_6]
          · rfl
          · refine ⟨?_, hrow, by omega, by omega⟩
            rw [refStep, if_pos (by simpa using hc19)]
      · intro ss T5 L5 hI
        obtain ⟨v1, s1, out1, q1, n1⟩ := ss
        try dsimp only at hI 
        simp only [h3_0, h3_6] at hI 
        obtain ⟨h5_3, h5_4, h5_5, h5_0, h5_6, hL5, ⟨hstep, hrow1, hol1, hn1⟩⟩ := hI
        replace hL5 := hL5.symm
        subst hL5
        clear h3_0 h3_3 h3_4 h3_5 h3_6 T3
        refine SX.region ?_
        simp (maxSteps := 1000000) only [Φa, Φb, Φc, Φd, ev, Φe, Φf, Φg, Φh, Φi, Φj, Φk, Φl, reduceIte, reduceCtorEq, if_true, if_false, Φm, Φn, Φo, Φp, true_and, and_true, false_and, and_false, true_implies, forall_const, false_implies, ne_eq, not_true_eq_false, not_false_eq_true, decide_true, decide_false, Φq, and_self, true_or, or_true, dite_true, dite_false, Φr, Φs, decide_eq_true_eq, decide_eq_false_iff_not, Φt, Φu, Φv, Φw, beq_self_eq_true, Φx, Φy, Φz, ΦA, ΦB, eq_self, VCplan, ΦC, ΦD, VCops, VQops, guardVC, putVC, VC, VQ, ΦE, ΦF, ΦG, ΦH, ΦI, ΦJ, ΦK, List.getElem?_cons_zero, List.getElem?_cons_succ, List.getElem?_nil, List.getElem?_toArray, ΦL, ΦM, ΦN, ΦO, ΦP, ΦQ, ΦR, ΦS, ΦT, ΦU, ΦV, ΦW, ΦX, ΦY, ΦZ, Ψa, Ψb, Ψc, Ψd, Ψe, Ψf, Ψg, Ψh, Ψi, Ψj, Ψk, Ψl, exists_eq_left, exists_eq_left', exists_const, existsSome, Ψm, Ψn, bin_add, bin_adds, hP, h5_3, h5_4, h5_5, h5_0, h5_6]
        refine hK11 _ _ ?_
        try clear hK11 K11
        refine SX.region ?_
        simp (maxSteps := 1000000) only [Φa, Φb, Φc, Φd, ev, Φe, Φf, Φg, Φh, Φi, Φj, Φk, Φl, reduceIte, reduceCtorEq, if_true, if_false, Φm, Φn, Φo, Φp, true_and, and_true, false_and, and_false, true_implies, forall_const, false_implies, ne_eq, not_true_eq_false, not_false_eq_true, decide_true, decide_false, Φq, and_self, true_or, or_true, dite_true, dite_false, Φr, Φs, decide_eq_true_eq, decide_eq_false_iff_not, Φt, Φu, Φv, Φw, beq_self_eq_true, Φx, Φy, Φz, ΦA, ΦB, eq_self, VCplan, ΦC, ΦD, VCops, VQops, guardVC, putVC, VC, VQ, ΦE, ΦF, ΦG, ΦH, ΦI, ΦJ, ΦK, List.getElem?_cons_zero, List.getElem?_cons_succ, List.getElem?_nil, List.getElem?_toArray, ΦL, ΦM, ΦN, ΦO, ΦP, ΦQ, ΦR, ΦS, ΦT, ΦU, ΦV, ΦW, ΦX, ΦY, ΦZ, Ψa, Ψb, Ψc, Ψd, Ψe, Ψf, Ψg, Ψh, Ψi, Ψj, Ψk, Ψl, exists_eq_left, exists_eq_left', exists_const, existsSome, Ψm, Ψn, bin_add, bin_adds, hP, h5_3, h5_4, h5_5, h5_0, h5_6]
        refine hK7 ((i + 1), v1, s1, out1, q1, (n1 + 1)) _ (s1 :: L) _ (by first | exact Less.refl _ | exact Less.drop _ _ | exact Less.drops (Less.drop _ _) | exact Less.drops (Less.drops (Less.drop _ _)) | exact Less.drops (Less.drops (Less.drops (Less.drop _ _))) | exact Less.drops (Less.drops (Less.drops (Less.drops (Less.drop _ _))))) ?_ ?_
        · try dsimp only
          refine ⟨?_, ?_, ?_, ?_, ?_, ?_, ?_⟩
          · simp (maxSteps := 1000000) only [Φa, Φb, Φc, Φd, ev, Φe, Φf, Φg, Φh, Φi, Φj, Φk, Φl, reduceIte, reduceCtorEq, if_true, if_false, Φm, Φn, Φo, Φp, true_and, and_true, false_and, and_false, true_implies, forall_const, false_implies, ne_eq, not_true_eq_false, not_false_eq_true, decide_true, decide_false, Φq, and_self, true_or, or_true, dite_true, dite_false, Φr, Φs, decide_eq_true_eq, decide_eq_false_iff_not, Φt, Φu, Φv, Φw, beq_self_eq_true, Φx, Φy, Φz, ΦA, ΦB, eq_self, hP, h5_3, h5_4, h5_5, h5_0, h5_6]
            first | done | rfl | skip
          · simp (maxSteps := 1000000) only [Φa, Φb, Φc, Φd, ev, Φe, Φf, Φg, Φh, Φi, Φj, Φk, Φl, reduceIte, reduceCtorEq, if_true, if_false, Φm, Φn, Φo, Φp, true_and, and_true, false_and, and_false, true_implies, forall_const, false_implies, ne_eq, not_true_eq_false, not_false_eq_true, decide_true, decide_false, Φq, and_self, true_or, or_true, dite_true, dite_false, Φr, Φs, decide_eq_true_eq, decide_eq_false_iff_not, Φt, Φu, Φv, Φw, beq_self_eq_true, Φx, Φy, Φz, ΦA, ΦB, eq_self, hP, h5_3, h5_4, h5_5, h5_0, h5_6]
            first | done | rfl | skip
          · simp (maxSteps := 1000000) only [Φa, Φb, Φc, Φd, ev, Φe, Φf, Φg, Φh, Φi, Φj, Φk, Φl, reduceIte, reduceCtorEq, if_true, if_false, Φm, Φn, Φo, Φp, true_and, and_true, false_and, and_false, true_implies, forall_const, false_implies, ne_eq, not_true_eq_false, not_false_eq_true, decide_true, decide_false, Φq, and_self, true_or, or_true, dite_true, dite_false, Φr, Φs, decide_eq_true_eq, decide_eq_false_iff_not, Φt, Φu, Φv, Φw, beq_self_eq_true, Φx, Φy, Φz, ΦA, ΦB, eq_self, hP, h5_3, h5_4, h5_5, h5_0, h5_6]
            rw [inc64 (by omega)]
          · simp (maxSteps := 1000000) only [Φa, Φb, Φc, Φd, ev, Φe, Φf, Φg, Φh, Φi, Φj, Φk, Φl, reduceIte, reduceCtorEq, if_true, if_false, Φm, Φn, Φo, Φp, true_and, and_true, false_and, and_false, true_implies, forall_const, false_implies, ne_eq, not_true_eq_false, not_false_eq_true, decide_true, decide_false, Φq, and_self, true_or, or_true, dite_true, dite_false, Φr, Φs, decide_eq_true_eq, decide_eq_false_iff_not, Φt, Φu, Φv, Φw, beq_self_eq_true, Φx, Φy, Φz, ΦA, ΦB, eq_self, hP, h5_3, h5_4, h5_5, h5_0, h5_6]
            rw [inc64 (by omega)]
          · simp (maxSteps := 1000000) only [Φa, Φb, Φc, Φd, ev, Φe, Φf, Φg, Φh, Φi, Φj, Φk, Φl, reduceIte, reduceCtorEq, if_true, if_false, Φm, Φn, Φo, Φp, true_and, and_true, false_and, and_false, true_implies, forall_const, false_implies, ne_eq, not_true_eq_false, not_false_eq_true, decide_true, decide_false, Φq, and_self, true_or, or_true, dite_true, dite_false, Φr, Φs, decide_eq_true_eq, decide_eq_false_iff_not, Φt, Φu, Φv, Φw, beq_self_eq_true, Φx, Φy, Φz, ΦA, ΦB, eq_self, hP, h5_3, h5_4, h5_5, h5_0, h5_6]
          · rfl
          · refine ⟨by omega, ?_, hrow1, hol1, by omega⟩
            rw [drop_q (by omega), refFold, List.foldl_cons, hstep] at hfin
            exact hfin
        · (try dsimp only); omega
    · clear hX10 hY10 X10 Y10
      refine SX.exit ?_
      try simp only [Φe, Φf, Φg, Φh, Φi, Φj, Φk, if_true, if_false, reduceIte]
      refine hK5 _ _ ?_
      try clear hK5 K5
      refine SX.live [3, 5] (fun T6 hT6 => ?_)
      simp only [forall_mem_cons', forall_mem_nil', Φa, Φb, Φc, Φd, ev, Φe, Φf, Φg, Φh, Φi, Φj, Φk, Φl, reduceIte, reduceCtorEq, if_true, if_false, Φm, Φn, Φo, Φp, true_and, and_true, false_and, and_false, true_implies, forall_const, false_implies, ne_eq, not_true_eq_false, not_false_eq_true, decide_true, decide_false, Φq, and_self, true_or, or_true, dite_true, dite_false, Φr, Φs, decide_eq_true_eq, decide_eq_false_iff_not, Φt, Φu, Φv, Φw, beq_self_eq_true, Φx, Φy, Φz, ΦA, ΦB, eq_self, hP, h2_3, h2_4, h2_5, h2_6, h2_0] at hT6
      obtain ⟨h6_3, h6_5⟩ := hT6
      clear h2_3 h2_4 h2_5 h2_6 h2_0 T2
      refine SX.join (fun (ss : (Value) × (Slot)) T L' => (fun (v3 : Value) (s3 : Slot) => T 3 = v3 ∧ L' = s3 :: L ∧ (RowI .i64 3 v3 (refLev qs) s3)) (ss.1) (ss.2)) (fun K17 hK17 => ?_) ?_
      · refine SX.seq_k fun K18 hK18 => ?_
        obtain rfl : i = qs.length := by omega
        rw [List.drop_length, refFold, List.foldl_nil] at hfin
        refine SX.region ?_
        simp (maxSteps := 1000000) only [Φa, Φb, Φc, Φd, ev, Φe, Φf, Φg, Φh, Φi, Φj, Φk, Φl, reduceIte, reduceCtorEq, if_true, if_false, Φm, Φn, Φo, Φp, true_and, and_true, false_and, and_false, true_implies, forall_const, false_implies, ne_eq, not_true_eq_false, not_false_eq_true, decide_true, decide_false, Φq, and_self, true_or, or_true, dite_true, dite_false, Φr, Φs, decide_eq_true_eq, decide_eq_false_iff_not, Φt, Φu, Φv, Φw, beq_self_eq_true, Φx, Φy, Φz, ΦA, ΦB, eq_self, VCplan, ΦC, ΦD, VCops, VQops, guardVC, putVC, VC, VQ, ΦE, ΦF, ΦG, ΦH, ΦI, ΦJ, ΦK, List.getElem?_cons_zero, List.getElem?_cons_succ, List.getElem?_nil, List.getElem?_toArray, ΦL, ΦM, ΦN, ΦO, ΦP, ΦQ, ΦR, ΦS, ΦT, ΦU, ΦV, ΦW, ΦX, ΦY, ΦZ, Ψa, Ψb, Ψc, Ψd, Ψe, Ψf, Ψg, Ψh, Ψi, Ψj, Ψk, Ψl, exists_eq_left, exists_eq_left', exists_const, existsSome, Ψm, Ψn, bin_gtr, hP, h6_3, h6_5]
        refine hK18 _ _ ?_
        try clear hK18 K18
        refine SX.cond_k fun X19 Y19 hX19 hY19 => ?_
        simp (maxSteps := 1000000) only [Φa, Φb, Φc, Φd, ev, Φe, Φf, Φg, Φh, Φi, Φj, Φk, Φl, reduceIte, reduceCtorEq, if_true, if_false, Φm, Φn, Φo, Φp, true_and, and_true, false_and, and_false, true_implies, forall_const, false_implies, ne_eq, not_true_eq_false, not_false_eq_true, decide_true, decide_false, Φq, and_self, true_or, or_true, dite_true, dite_false, Φr, Φs, decide_eq_true_eq, decide_eq_false_iff_not, Φt, Φu, Φv, Φw, beq_self_eq_true, Φx, Φy, Φz, ΦA, ΦB, eq_self, hP, h6_3, h6_5, condVC]
        refine ⟨fun hc32 => hX19 ?_, fun hc32 => hY19 ?_⟩
        · clear hX19 hY19 X19 Y19
          refine SX.region ?_
          simp (maxSteps := 1000000) only [Φa, Φb, Φc, Φd, ev, Φe, Φf, Φg, Φh, Φi, Φj, Φk, Φl, reduceIte, reduceCtorEq, if_true, if_false, Φm, Φn, Φo, Φp, true_and, and_true, false_and, and_false, true_implies, forall_const, false_implies, ne_eq, not_true_eq_false, not_false_eq_true, decide_true, decide_false, Φq, and_self, true_or, or_true, dite_true, dite_false, Φr, Φs, decide_eq_true_eq, decide_eq_false_iff_not, Φt, Φu, Φv, Φw, beq_self_eq_true, Φx, Φy, Φz, ΦA, ΦB, eq_self, VCplan, ΦC, ΦD, VCops, VQops, guardVC, putVC, VC, VQ, ΦE, ΦF, ΦG, ΦH, ΦI, ΦJ, ΦK, List.getElem?_cons_zero, List.getElem?_cons_succ, List.getElem?_nil, List.getElem?_toArray, ΦL, ΦM, ΦN, ΦO, ΦP, ΦQ, ΦR, ΦS, ΦT, ΦU, ΦV, ΦW, ΦX, ΦY, ΦZ, Ψa, Ψb, Ψc, Ψd, Ψe, Ψf, Ψg, Ψh, Ψi, Ψj, Ψk, Ψl, exists_eq_left, exists_eq_left', exists_const, existsSome, Ψm, Ψn, partVC, buildVC, placeL, fillL, setN, inOrd, catV, cells_int, cells_bool, cells_string, cells_pointer, cells_slice, cells_agg, oneB_nil, oneB_cons, one_int, one_bool, one_string, one_pointer, one_slice, one_map, one_func, one_nilFunc, one_nilIface, one_iface, cells_map, cells_func, cells_nilFunc, cells_nilIface, cells_iface, T.elS_35, T.szA_35, T.zr_35, Try.underlying35, T.szA_3, T.zr_3, Try.underlying3, qcall_f, call_f, len_slice, len_str, cap_slice, min_int, max_int, hP, h6_3, h6_5]
          intro bb
          refine YAppend.int1 (i := 0) (hP ▸ T.elS_35) (hP ▸ T.zr_3) rfl rfl hrow (by omega) (by decide) (fun v2 s2 hrow2 => ?_)
          try simp (maxSteps := 1000000) only [Φa, Φb, Φc, Φd, ev, Φe, Φf, Φg, Φh, Φi, Φj, Φk, Φl, reduceIte, reduceCtorEq, if_true, if_false, Φm, Φn, Φo, Φp, true_and, and_true, false_and, and_false, true_implies, forall_const, false_implies, ne_eq, not_true_eq_false, not_false_eq_true, decide_true, decide_false, Φq, and_self, true_or, or_true, dite_true, dite_false, Φr, Φs, decide_eq_true_eq, decide_eq_false_iff_not, Φt, Φu, Φv, Φw, beq_self_eq_true, Φx, Φy, Φz, ΦA, ΦB, eq_self, VCplan, ΦC, ΦD, VCops, VQops, guardVC, putVC, VC, VQ, ΦE, ΦF, ΦG, ΦH, ΦI, ΦJ, ΦK, List.getElem?_cons_zero, List.getElem?_cons_succ, List.getElem?_nil, List.getElem?_toArray, ΦL, ΦM, ΦN, ΦO, ΦP, ΦQ, ΦR, ΦS, ΦT, ΦU, ΦV, ΦW, ΦX, ΦY, ΦZ, Ψa, Ψb, Ψc, Ψd, Ψe, Ψf, Ψg, Ψh, Ψi, Ψj, Ψk, Ψl, exists_eq_left, exists_eq_left', exists_const, existsSome, Ψm, Ψn, partVC, buildVC, placeL, fillL, setN, inOrd, catV, cells_int, cells_bool, cells_string, cells_pointer, cells_slice, cells_agg, oneB_nil, oneB_cons, one_int, one_bool, one_string, one_pointer, one_slice, one_map, one_func, one_nilFunc, one_nilIface, one_iface, cells_map, cells_func, cells_nilFunc, cells_nilIface, cells_iface, T.elS_35, T.szA_35, T.zr_35, Try.underlying35, T.szA_3, T.zr_3, Try.underlying3, qcall_f, call_f, len_slice, len_str, cap_slice, min_int, max_int, hP, h6_3, h6_5]
          refine hK17 (v2, s2) _ (s2 :: L) _ (by first | exact Less.refl _ | exact Less.drop _ _ | exact Less.drops (Less.drop _ _) | exact Less.drops (Less.drops (Less.drop _ _)) | exact Less.drops (Less.drops (Less.drops (Less.drop _ _))) | exact Less.drops (Less.drops (Less.drops (Less.drops (Less.drop _ _))))) ?_
          try dsimp only
          refine ⟨?_, ?_, ?_⟩
          · simp (maxSteps := 1000000) only [Φa, Φb, Φc, Φd, ev, Φe, Φf, Φg, Φh, Φi, Φj, Φk, Φl, reduceIte, reduceCtorEq, if_true, if_false, Φm, Φn, Φo, Φp, true_and, and_true, false_and, and_false, true_implies, forall_const, false_implies, ne_eq, not_true_eq_false, not_false_eq_true, decide_true, decide_false, Φq, and_self, true_or, or_true, dite_true, dite_false, Φr, Φs, decide_eq_true_eq, decide_eq_false_iff_not, Φt, Φu, Φv, Φw, beq_self_eq_true, Φx, Φy, Φz, ΦA, ΦB, eq_self, hP, h6_3, h6_5]
            first | done | rfl | skip
          · rfl
          · rw [← hfin, fin, if_pos (by dsimp only; omega)]; exact hrow2
        · clear hX19 hY19 X19 Y19
          refine SX.skip ?_
          try simp only [Φe, Φf, Φg, Φh, Φi, Φj, Φk, if_true, if_false, reduceIte]
          refine hK17 (v, s) _ (s :: L) _ (by first | exact Less.refl _ | exact Less.drop _ _ | exact Less.drops (Less.drop _ _) | exact Less.drops (Less.drops (Less.drop _ _)) | exact Less.drops (Less.drops (Less.drops (Less.drop _ _))) | exact Less.drops (Less.drops (Less.drops (Less.drops (Less.drop _ _))))) ?_
          try dsimp only
          refine ⟨?_, ?_, ?_⟩
          · simp (maxSteps := 1000000) only [Φa, Φb, Φc, Φd, ev, Φe, Φf, Φg, Φh, Φi, Φj, Φk, Φl, reduceIte, reduceCtorEq, if_true, if_false, Φm, Φn, Φo, Φp, true_and, and_true, false_and, and_false, true_implies, forall_const, false_implies, ne_eq, not_true_eq_false, not_false_eq_true, decide_true, decide_false, Φq, and_self, true_or, or_true, dite_true, dite_false, Φr, Φs, decide_eq_true_eq, decide_eq_false_iff_not, Φt, Φu, Φv, Φw, beq_self_eq_true, Φx, Φy, Φz, ΦA, ΦB, eq_self, hP, h6_3, h6_5]
            first | done | rfl | skip
          · rfl
          · rw [← hfin, fin, if_neg (by dsimp only; omega)]; exact hrow
      · intro ss T7 L7 hI
        obtain ⟨v3, s3⟩ := ss
        try dsimp only at hI 
        obtain ⟨h7_3, hL7, hrow3⟩ := hI
        replace hL7 := hL7.symm
        subst hL7
        clear h6_3 h6_5 T6
        refine SX.seq_k fun K20 hK20 => ?_
        refine SX.region ?_
        simp (maxSteps := 1000000) only [Φa, Φb, Φc, Φd, ev, Φe, Φf, Φg, Φh, Φi, Φj, Φk, Φl, reduceIte, reduceCtorEq, if_true, if_false, Φm, Φn, Φo, Φp, true_and, and_true, false_and, and_false, true_implies, forall_const, false_implies, ne_eq, not_true_eq_false, not_false_eq_true, decide_true, decide_false, Φq, and_self, true_or, or_true, dite_true, dite_false, Φr, Φs, decide_eq_true_eq, decide_eq_false_iff_not, Φt, Φu, Φv, Φw, beq_self_eq_true, Φx, Φy, Φz, ΦA, ΦB, eq_self, VCplan, ΦC, ΦD, VCops, VQops, guardVC, putVC, VC, VQ, ΦE, ΦF, ΦG, ΦH, ΦI, ΦJ, ΦK, List.getElem?_cons_zero, List.getElem?_cons_succ, List.getElem?_nil, List.getElem?_toArray, ΦL, ΦM, ΦN, ΦO, ΦP, ΦQ, ΦR, ΦS, ΦT, ΦU, ΦV, ΦW, ΦX, ΦY, ΦZ, Ψa, Ψb, Ψc, Ψd, Ψe, Ψf, Ψg, Ψh, Ψi, Ψj, Ψk, Ψl, exists_eq_left, exists_eq_left', exists_const, existsSome, Ψm, Ψn, hP, h7_3]
        refine hK20 _ _ ?_
        try clear hK20 K20
        refine SX.ret ?_
        simp only [Φe, Φf, Φg, Φh, Φi, Φj, Φk, if_true, if_false, reduceIte, retQ_ret]
        try simp only [res0, res1, res2, res3, Φa, Φb, Φc, Φd, ev, Φe, Φf, Φg, Φh, Φi, Φj, Φk, Φl, reduceIte, reduceCtorEq, if_true, if_false, Φm, Φn, Φo, Φp, true_and, and_true, false_and, and_false, true_implies, forall_const, false_implies, ne_eq, not_true_eq_false, not_false_eq_true, decide_true, decide_false, Φq, and_self, true_or, or_true, dite_true, dite_false, Φr, Φs, decide_eq_true_eq, decide_eq_false_iff_not, Φt, Φu, Φv, Φw, beq_self_eq_true, Φx, Φy, Φz, ΦA, ΦB, eq_self, hP, h7_3]
        exact ⟨_, _, Less.refl _, rfl, s3, rfl, hrow3⟩
set_option maxHeartbeats 1000000 in
set_option maxRecDepth 100000 in
theorem refBeeps_spec {Γ : Ctx} (hP : Γ.P = Try.prog) {L : Hp} {A : Option Addr} {c : Nat} {qs : List Bool} (hm : qs.length < 2147483648) (hc : qs.length ≤ c) (hq : Recs Γ L A qs) :
    SCall Γ 9 #[(.slice A qs.length c)] L (fun v L' => ∃ s, L' = s :: L ∧ RowL c2 27 2 v (beepF (rows qs)) s) := by
  refine SCall.enter (n := 36) (res1 2) (hP ▸ Try.func9) rfl rfl (by simp) (res1_ok rfl) ?_
  refine SX.seq_k fun K1 hK1 => ?_
  refine SX.region ?_
  simp (maxSteps := 1000000) only [Φa, Φb, Φc, Φd, ev, Φe, Φf, Φg, Φh, Φi, Φj, Φk, Φl, reduceIte, reduceCtorEq, if_true, if_false, Φm, Φn, Φo, Φp, true_and, and_true, false_and, and_false, true_implies, forall_const, false_implies, ne_eq, not_true_eq_false, not_false_eq_true, decide_true, decide_false, Φq, and_self, true_or, or_true, dite_true, dite_false, Φr, Φs, decide_eq_true_eq, decide_eq_false_iff_not, Φt, Φu, Φv, Φw, beq_self_eq_true, Φx, Φy, Φz, ΦA, ΦB, eq_self, VCplan, ΦC, ΦD, VCops, VQops, guardVC, putVC, VC, VQ, ΦE, ΦF, ΦG, ΦH, ΦI, ΦJ, ΦK, List.getElem?_cons_zero, List.getElem?_cons_succ, List.getElem?_nil, List.getElem?_toArray, ΦL, ΦM, ΦN, ΦO, ΦP, ΦQ, ΦR, ΦS, ΦT, ΦU, ΦV, ΦW, ΦX, ΦY, ΦZ, Ψa, Ψb, Ψc, Ψd, Ψe, Ψf, Ψg, Ψh, Ψi, Ψj, Ψk, Ψl, exists_eq_left, exists_eq_left', exists_const, existsSome, Ψm, Ψn, hP]
  refine hK1 _ _ ?_
  try clear hK1 K1
  refine SX.seq_k fun K2 hK2 => ?_
  refine SX.region ?_
  simp (maxSteps := 1000000) only [Φa, Φb, Φc, Φd, ev, Φe, Φf, Φg, Φh, Φi, Φj, Φk, Φl, reduceIte, reduceCtorEq, if_true, if_false, Φm, Φn, Φo, Φp, true_and, and_true, false_and, and_false, true_implies, forall_const, false_implies, ne_eq, not_true_eq_false, not_false_eq_true, decide_true, decide_false, Φq, and_self, true_or, or_true, dite_true, dite_false, Φr, Φs, decide_eq_true_eq, decide_eq_false_iff_not, Φt, Φu, Φv, Φw, beq_self_eq_true, Φx, Φy, Φz, ΦA, ΦB, eq_self, VCplan, ΦC, ΦD, VCops, VQops, guardVC, putVC, VC, VQ, ΦE, ΦF, ΦG, ΦH, ΦI, ΦJ, ΦK, List.getElem?_cons_zero, List.getElem?_cons_succ, List.getElem?_nil, List.getElem?_toArray, ΦL, ΦM, ΦN, ΦO, ΦP, ΦQ, ΦR, ΦS, ΦT, ΦU, ΦV, ΦW, ΦX, ΦY, ΦZ, Ψa, Ψb, Ψc, Ψd, Ψe, Ψf, Ψg, Ψh, Ψi, Ψj, Ψk, Ψl, exists_eq_left, exists_eq_left', exists_const, existsSome, Ψm, Ψn, qcall_f, call_f, len_slice, len_str, cap_slice, min_int, max_int, T.elS_22, T.szA_22, T.zr_22, Try.underlying22, T.callable_16, hP]
  refine SCall.mono (refLevels_spec hP hm hc hq) ?_
  rintro v_ L_ ⟨sv, hL_, hlev⟩
  rw [hL_]
  clear hL_ L_
  rw [refLev_eq hm] at hlev
  generalize hlv : levF (rows qs) = lv at hlev
  have hlen : lv.length ≤ 4294967296 := by rw [← hlv]; have := levF_len (rows qs); have := rows_len qs; omega
  obtain ⟨X1, Y1, rfl, -, -⟩ := Row.form hlev
  try simp (maxSteps := 1000000) only [Φa, Φb, Φc, Φd, ev, Φe, Φf, Φg, Φh, Φi, Φj, Φk, Φl, reduceIte, reduceCtorEq, if_true, if_false, Φm, Φn, Φo, Φp, true_and, and_true, false_and, and_false, true_implies, forall_const, false_implies, ne_eq, not_true_eq_false, not_false_eq_true, decide_true, decide_false, Φq, and_self, true_or, or_true, dite_true, dite_false, Φr, Φs, decide_eq_true_eq, decide_eq_false_iff_not, Φt, Φu, Φv, Φw, beq_self_eq_true, Φx, Φy, Φz, ΦA, ΦB, eq_self, VCplan, ΦC, ΦD, VCops, VQops, guardVC, putVC, VC, VQ, ΦE, ΦF, ΦG, ΦH, ΦI, ΦJ, ΦK, List.getElem?_cons_zero, List.getElem?_cons_succ, List.getElem?_nil, List.getElem?_toArray, ΦL, ΦM, ΦN, ΦO, ΦP, ΦQ, ΦR, ΦS, ΦT, ΦU, ΦV, ΦW, ΦX, ΦY, ΦZ, Ψa, Ψb, Ψc, Ψd, Ψe, Ψf, Ψg, Ψh, Ψi, Ψj, Ψk, Ψl, exists_eq_left, exists_eq_left', exists_const, existsSome, Ψm, Ψn, qcall_f, call_f, len_slice, len_str, cap_slice, min_int, max_int, T.elS_22, T.szA_22, T.zr_22, Try.underlying22, T.callable_16, hP]
  refine hK2 _ _ ?_
  try clear hK2 K2
  refine SX.seq_k fun K3 hK3 => ?_
  refine SX.region ?_
  simp (maxSteps := 1000000) only [Φa, Φb, Φc, Φd, ev, Φe, Φf, Φg, Φh, Φi, Φj, Φk, Φl, reduceIte, reduceCtorEq, if_true, if_false, Φm, Φn, Φo, Φp, true_and, and_true, false_and, and_false, true_implies, forall_const, false_implies, ne_eq, not_true_eq_false, not_false_eq_true, decide_true, decide_false, Φq, and_self, true_or, or_true, dite_true, dite_false, Φr, Φs, decide_eq_true_eq, decide_eq_false_iff_not, Φt, Φu, Φv, Φw, beq_self_eq_true, Φx, Φy, Φz, ΦA, ΦB, eq_self, VCplan, ΦC, ΦD, VCops, VQops, guardVC, putVC, VC, VQ, ΦE, ΦF, ΦG, ΦH, ΦI, ΦJ, ΦK, List.getElem?_cons_zero, List.getElem?_cons_succ, List.getElem?_nil, List.getElem?_toArray, ΦL, ΦM, ΦN, ΦO, ΦP, ΦQ, ΦR, ΦS, ΦT, ΦU, ΦV, ΦW, ΦX, ΦY, ΦZ, Ψa, Ψb, Ψc, Ψd, Ψe, Ψf, Ψg, Ψh, Ψi, Ψj, Ψk, Ψl, exists_eq_left, exists_eq_left', exists_const, existsSome, Ψm, Ψn, hP]
  refine hK3 _ _ ?_
  try clear hK3 K3
  refine SX.seq_k fun K4 hK4 => ?_
  refine SX.region ?_
  simp (maxSteps := 1000000) only [Φa, Φb, Φc, Φd, ev, Φe, Φf, Φg, Φh, Φi, Φj, Φk, Φl, reduceIte, reduceCtorEq, if_true, if_false, Φm, Φn, Φo, Φp, true_and, and_true, false_and, and_false, true_implies, forall_const, false_implies, ne_eq, not_true_eq_false, not_false_eq_true, decide_true, decide_false, Φq, and_self, true_or, or_true, dite_true, dite_false, Φr, Φs, decide_eq_true_eq, decide_eq_false_iff_not, Φt, Φu, Φv, Φw, beq_self_eq_true, Φx, Φy, Φz, ΦA, ΦB, eq_self, VCplan, ΦC, ΦD, VCops, VQops, guardVC, putVC, VC, VQ, ΦE, ΦF, ΦG, ΦH, ΦI, ΦJ, ΦK, List.getElem?_cons_zero, List.getElem?_cons_succ, List.getElem?_nil, List.getElem?_toArray, ΦL, ΦM, ΦN, ΦO, ΦP, ΦQ, ΦR, ΦS, ΦT, ΦU, ΦV, ΦW, ΦX, ΦY, ΦZ, Ψa, Ψb, Ψc, Ψd, Ψe, Ψf, Ψg, Ψh, Ψi, Ψj, Ψk, Ψl, exists_eq_left, exists_eq_left', exists_const, existsSome, Ψm, Ψn, hP]
  refine hK4 _ _ ?_
  try clear hK4 K4
  refine SX.seq_k fun K5 hK5 => ?_
  refine SX.seq_k fun K6 hK6 => ?_
  refine SX.region ?_
  simp (maxSteps := 1000000) only [Φa, Φb, Φc, Φd, ev, Φe, Φf, Φg, Φh, Φi, Φj, Φk, Φl, reduceIte, reduceCtorEq, if_true, if_false, Φm, Φn, Φo, Φp, true_and, and_true, false_and, and_false, true_implies, forall_const, false_implies, ne_eq, not_true_eq_false, not_false_eq_true, decide_true, decide_false, Φq, and_self, true_or, or_true, dite_true, dite_false, Φr, Φs, decide_eq_true_eq, decide_eq_false_iff_not, Φt, Φu, Φv, Φw, beq_self_eq_true, Φx, Φy, Φz, ΦA, ΦB, eq_self, VCplan, ΦC, ΦD, VCops, VQops, guardVC, putVC, VC, VQ, ΦE, ΦF, ΦG, ΦH, ΦI, ΦJ, ΦK, List.getElem?_cons_zero, List.getElem?_cons_succ, List.getElem?_nil, List.getElem?_toArray, ΦL, ΦM, ΦN, ΦO, ΦP, ΦQ, ΦR, ΦS, ΦT, ΦU, ΦV, ΦW, ΦX, ΦY, ΦZ, Ψa, Ψb, Ψc, Ψd, Ψe, Ψf, Ψg, Ψh, Ψi, Ψj, Ψk, Ψl, exists_eq_left, exists_eq_left', exists_const, existsSome, Ψm, Ψn, hP]
  refine hK6 _ _ ?_
  try clear hK6 K6
  refine SX.block ?_
  refine SX.less (Less.none _) ?_
  refine SX.live [3, 4, 5, 6] (fun T1 hT1 => ?_)
  simp only [forall_mem_cons', forall_mem_nil', Φa, Φb, Φc, Φd, ev, Φe, Φf, Φg, Φh, Φi, Φj, Φk, Φl, reduceIte, reduceCtorEq, if_true, if_false, Φm, Φn, Φo, Φp, true_and, and_true, false_and, and_false, true_implies, forall_const, false_implies, ne_eq, not_true_eq_false, not_false_eq_true, decide_true, decide_false, Φq, and_self, true_or, or_true, dite_true, dite_false, Φr, Φs, decide_eq_true_eq, decide_eq_false_iff_not, Φt, Φu, Φv, Φw, beq_self_eq_true, Φx, Φy, Φz, ΦA, ΦB, eq_self, hP] at hT1
  obtain ⟨h1_3, h1_4, h1_5, h1_6⟩ := hT1
  refine SX.loop_k (fun (ss : (Nat) × (Int) × (Value) × (Slot) × (List B2)) T L' => (fun (i : Nat) (at_ : Int) (v : Value) (s : Slot) (out : List B2) => T 4 = v ∧ T 5 = .int .i64 at_ ∧ T 6 = .int .i64 (i : Int) ∧ T 3 = T1 3 ∧ L' = s :: sv :: L ∧ (i ≤ lv.length ∧ bF false 0 lv = out ++ bF (decide (i % 2 = 1)) at_ (lv.drop i) ∧ RowL c2 27 2 v out s ∧ out.length ≤ i)) (ss.1) (ss.2.1) (ss.2.2.1) (ss.2.2.2.1) (ss.2.2.2.2)) (fun (ss : (Nat) × (Int) × (Value) × (Slot) × (List B2)) => (fun (i : Nat) (at_ : Int) (v : Value) (s : Slot) (out : List B2) => lv.length - i) (ss.1) (ss.2.1) (ss.2.2.1) (ss.2.2.2.1) (ss.2.2.2.2)) (0, 0, .slice none 0 0, none, []) ?_ ?_
  · try dsimp only
    refine ⟨?_, ?_, ?_, ?_, ?_, ?_⟩
    · first | exact h1_4 | (rw [h1_4]; rfl) | (rw [h1_4]; simp; done)
    · first | exact h1_5 | (rw [h1_5]; rfl) | (rw [h1_5]; simp; done)
    · first | exact h1_6 | (rw [h1_6]; rfl) | (rw [h1_6]; simp; done)
    · rfl
    · rfl
    · exact ⟨Nat.zero_le _, rfl, RowL.nil _ _ _, Nat.le_refl _⟩
  · intro ss T2 L2 hI K7 hK7
    obtain ⟨i, at_, v, s, out⟩ := ss
    try dsimp only at hI hK7
    simp only [h1_3] at hI hK7
    obtain ⟨h2_4, h2_5, h2_6, h2_3, hL2, ⟨hi, hb, hrow, hol⟩⟩ := hI
    replace hL2 := hL2.symm
    subst hL2
    clear h1_3 h1_4 h1_5 h1_6 T1
    have hq2 : (i : Int).tmod 2 = ((i % 2 : Nat) : Int) := rfl
    refine SX.seq_k fun K8 hK8 => ?_
    refine SX.seq_k fun K9 hK9 => ?_
    refine SX.region ?_
    simp (maxSteps := 1000000) only [Φa, Φb, Φc, Φd, ev, Φe, Φf, Φg, Φh, Φi, Φj, Φk, Φl, reduceIte, reduceCtorEq, if_true, if_false, Φm, Φn, Φo, Φp, true_and, and_true, false_and, and_false, true_implies, forall_const, false_implies, ne_eq, not_true_eq_false, not_false_eq_true, decide_true, decide_false, Φq, and_self, true_or, or_true, dite_true, dite_false, Φr, Φs, decide_eq_true_eq, decide_eq_false_iff_not, Φt, Φu, Φv, Φw, beq_self_eq_true, Φx, Φy, Φz, ΦA, ΦB, eq_self, VCplan, ΦC, ΦD, VCops, VQops, guardVC, putVC, VC, VQ, ΦE, ΦF, ΦG, ΦH, ΦI, ΦJ, ΦK, List.getElem?_cons_zero, List.getElem?_cons_succ, List.getElem?_nil, List.getElem?_toArray, ΦL, ΦM, ΦN, ΦO, ΦP, ΦQ, ΦR, ΦS, ΦT, ΦU, ΦV, ΦW, ΦX, ΦY, ΦZ, Ψa, Ψb, Ψc, Ψd, Ψe, Ψf, Ψg, Ψh, Ψi, Ψj, Ψk, Ψl, exists_eq_left, exists_eq_left', exists_const, existsSome, Ψm, Ψn, qcall_f, call_f, len_slice, len_str, cap_slice, min_int, max_int, T.elS_35, T.szA_35, T.zr_35, Try.underlying35, bin_lss, hP, h2_4, h2_5, h2_6, h2_3]
    refine hK9 _ _ ?_
    try clear hK9 K9
    refine SX.cond_k fun X10 Y10 hX10 hY10 => ?_
    simp (maxSteps := 1000000) only [Φa, Φb, Φc, Φd, ev, Φe, Φf, Φg, Φh, Φi, Φj, Φk, Φl, reduceIte, reduceCtorEq, if_true, if_false, Φm, Φn, Φo, Φp, true_and, and_true, false_and, and_false, true_implies, forall_const, false_implies, ne_eq, not_true_eq_false, not_false_eq_true, decide_true, decide_false, Φq, and_self, true_or, or_true, dite_true, dite_false, Φr, Φs, decide_eq_true_eq, decide_eq_false_iff_not, Φt, Φu, Φv, Φw, beq_self_eq_true, Φx, Φy, Φz, ΦA, ΦB, eq_self, hP, h2_4, h2_5, h2_6, h2_3, condVC]
    refine ⟨fun hc12 => hX10 ?_, fun hc12 => hY10 ?_⟩
    · clear hX10 hY10 X10 Y10
      refine SX.skip ?_
      try simp only [Φe, Φf, Φg, Φh, Φi, Φj, Φk, if_true, if_false, reduceIte]
      refine hK8 _ _ ?_
      try clear hK8 K8
      refine SX.seq_k fun K11 hK11 => ?_
      refine SX.block ?_
      refine SX.live [3, 4, 5, 6] (fun T3 hT3 => ?_)
      simp only [forall_mem_cons', forall_mem_nil', Φa, Φb, Φc, Φd, ev, Φe, Φf, Φg, Φh, Φi, Φj, Φk, Φl, reduceIte, reduceCtorEq, if_true, if_false, Φm, Φn, Φo, Φp, true_and, and_true, false_and, and_false, true_implies, forall_const, false_implies, ne_eq, not_true_eq_false, not_false_eq_true, decide_true, decide_false, Φq, and_self, true_or, or_true, dite_true, dite_false, Φr, Φs, decide_eq_true_eq, decide_eq_false_iff_not, Φt, Φu, Φv, Φw, beq_self_eq_true, Φx, Φy, Φz, ΦA, ΦB, eq_self, hP, h2_4, h2_5, h2_6, h2_3] at hT3
      obtain ⟨h3_3, h3_4, h3_5, h3_6⟩ := hT3
      clear h2_4 h2_5 h2_6 h2_3 T2
      refine SX.join (fun (ss : (Value) × (Slot) × (List B2)) T L' => (fun (v1 : Value) (s1 : Slot) (out1 : List B2) => T 4 = v1 ∧ T 3 = T3 3 ∧ T 5 = T3 5 ∧ T 6 = T3 6 ∧ L' = s1 :: sv :: L ∧ (out1 = out ++ (if decide (i % 2 = 1) = true then [(at_, IntKind.i64.wrap (at_ + lv.getD i 0))] else []) ∧ RowL c2 27 2 v1 out1 s1 ∧ out1.length ≤ i + 1)) (ss.1) (ss.2.1) (ss.2.2)) (fun K12 hK12 => ?_) ?_
      · simp only [h3_3, h3_5, h3_6] at hK12
        refine SX.seq_k fun K13 hK13 => ?_
        refine SX.region ?_
        simp (maxSteps := 1000000) only [Φa, Φb, Φc, Φd, ev, Φe, Φf, Φg, Φh, Φi, Φj, Φk, Φl, reduceIte, reduceCtorEq, if_true, if_false, Φm, Φn, Φo, Φp, true_and, and_true, false_and, and_false, true_implies, forall_const, false_implies, ne_eq, not_true_eq_false, not_false_eq_true, decide_true, decide_false, Φq, and_self, true_or, or_true, dite_true, dite_false, Φr, Φs, decide_eq_true_eq, decide_eq_false_iff_not, Φt, Φu, Φv, Φw, beq_self_eq_true, Φx, Φy, Φz, ΦA, ΦB, eq_self, VCplan, ΦC, ΦD, VCops, VQops, guardVC, putVC, VC, VQ, ΦE, ΦF, ΦG, ΦH, ΦI, ΦJ, ΦK, List.getElem?_cons_zero, List.getElem?_cons_succ, List.getElem?_nil, List.getElem?_toArray, ΦL, ΦM, ΦN, ΦO, ΦP, ΦQ, ΦR, ΦS, ΦT, ΦU, ΦV, ΦW, ΦX, ΦY, ΦZ, Ψa, Ψb, Ψc, Ψd, Ψe, Ψf, Ψg, Ψh, Ψi, Ψj, Ψk, Ψl, exists_eq_left, exists_eq_left', exists_const, existsSome, Ψm, Ψn, bin_rem, bin_eql, bin_eqlb, bin_eqls, bin_eqla, T.szA_3, T.zr_3, Try.underlying3, hP, h3_3, h3_4, h3_5, h3_6, hq2]
        refine hK13 _ _ ?_
        try clear hK13 K13
        refine SX.cond_k fun X14 Y14 hX14 hY14 => ?_
        simp (maxSteps := 1000000) only [Φa, Φb, Φc, Φd, ev, Φe, Φf, Φg, Φh, Φi, Φj, Φk, Φl, reduceIte, reduceCtorEq, if_true, if_false, Φm, Φn, Φo, Φp, true_and, and_true, false_and, and_false, true_implies, forall_const, false_implies, ne_eq, not_true_eq_false, not_false_eq_true, decide_true, decide_false, Φq, and_self, true_or, or_true, dite_true, dite_false, Φr, Φs, decide_eq_true_eq, decide_eq_false_iff_not, Φt, Φu, Φv, Φw, beq_self_eq_true, Φx, Φy, Φz, ΦA, ΦB, eq_self, hP, h3_3, h3_4, h3_5, h3_6, condVC]
        refine ⟨fun hc17 => hX14 ?_, fun hc17 => hY14 ?_⟩
        · clear hX14 hY14 X14 Y14
          refine SX.region_x ?_
          obtain ⟨X2, Y2, e2, -, hB⟩ := RowI.sl (Γ := Γ) (L := s :: sv :: L) (i := 1) hlev rfl
          cases e2
          obtain ⟨a, ha, hcell⟩ := hB i _ (getD_at (show i < lv.length by omega))
          simp only [RInt, Ψl] at hcell
          refine RX.cut_k 8 fun K15 hK15 => ?_
          simp (maxSteps := 1000000) only [Φa, Φb, Φc, Φd, ev, Φe, Φf, Φg, Φh, Φi, Φj, Φk, Φl, reduceIte, reduceCtorEq, if_true, if_false, Φm, Φn, Φo, Φp, true_and, and_true, false_and, and_false, true_implies, forall_const, false_implies, ne_eq, not_true_eq_false, not_false_eq_true, decide_true, decide_false, Φq, and_self, true_or, or_true, dite_true, dite_false, Φr, Φs, decide_eq_true_eq, decide_eq_false_iff_not, Φt, Φu, Φv, Φw, beq_self_eq_true, Φx, Φy, Φz, ΦA, ΦB, eq_self, VCplan, ΦC, ΦD, VCops, VQops, guardVC, putVC, VC, VQ, ΦE, ΦF, ΦG, ΦH, ΦI, ΦJ, ΦK, List.getElem?_cons_zero, List.getElem?_cons_succ, List.getElem?_nil, List.getElem?_toArray, ΦL, ΦM, ΦN, ΦO, ΦP, ΦQ, ΦR, ΦS, ΦT, ΦU, ΦV, ΦW, ΦX, ΦY, ΦZ, Ψa, Ψb, Ψc, Ψd, Ψe, Ψf, Ψg, Ψh, Ψi, Ψj, Ψk, Ψl, exists_eq_left, exists_eq_left', exists_const, existsSome, Ψm, Ψn, ia_slice, ia_arr, Addr.add_lit, Addr.add_zero', add_addS, Int.toNat_natCast, Int.toNat_zero, Int.toNat_one, Int.reduceToNat, T.elS_35, T.szA_35, T.zr_35, Try.underlying35, ld_ptr, loadVC, loadN, T.szA_3, T.zr_3, Try.underlying3, bin_add, bin_adds, hP, h3_3, h3_4, h3_5, h3_6]
          refine ⟨⟨by omega, by omega⟩, a, ha, _, hcell, ?_⟩
          try simp (maxSteps := 1000000) only [Φa, Φb, Φc, Φd, ev, Φe, Φf, Φg, Φh, Φi, Φj, Φk, Φl, reduceIte, reduceCtorEq, if_true, if_false, Φm, Φn, Φo, Φp, true_and, and_true, false_and, and_false, true_implies, forall_const, false_implies, ne_eq, not_true_eq_false, not_false_eq_true, decide_true, decide_false, Φq, and_self, true_or, or_true, dite_true, dite_false, Φr, Φs, decide_eq_true_eq, decide_eq_false_iff_not, Φt, Φu, Φv, Φw, beq_self_eq_true, Φx, Φy, Φz, ΦA, ΦB, eq_self, VCplan, ΦC, ΦD, VCops, VQops, guardVC, putVC, VC, VQ, ΦE, ΦF, ΦG, ΦH, ΦI, ΦJ, ΦK, List.getElem?_cons_zero, List.getElem?_cons_succ, List.getElem?_nil, List.getElem?_toArray, ΦL, ΦM, ΦN, ΦO, ΦP, ΦQ, ΦR, ΦS, ΦT, ΦU, ΦV, ΦW, ΦX, ΦY, ΦZ, Ψa, Ψb, Ψc, Ψd, Ψe, Ψf, Ψg, Ψh, Ψi, Ψj, Ψk, Ψl, exists_eq_left, exists_eq_left', exists_const, existsSome, Ψm, Ψn, ia_slice, ia_arr, Addr.add_lit, Addr.add_zero', add_addS, Int.toNat_natCast, Int.toNat_zero, Int.toNat_one, Int.reduceToNat, T.elS_35, T.szA_35, T.zr_35, Try.underlying35, ld_ptr, loadVC, loadN, T.szA_3, T.zr_3, Try.underlying3, bin_add, bin_adds, hP, h3_3, h3_4, h3_5, h3_6]
          refine hK15 _ _ ?_
          try clear hK15 K15
          refine RX.live [3, 5, 6, 18, 19, 25] (fun T4 hT4 => ?_)
          simp only [forall_mem_cons', forall_mem_nil', Φa, Φb, Φc, Φd, ev, Φe, Φf, Φg, Φh, Φi, Φj, Φk, Φl, reduceIte, reduceCtorEq, if_true, if_false, Φm, Φn, Φo, Φp, true_and, and_true, false_and, and_false, true_implies, forall_const, false_implies, ne_eq, not_true_eq_false, not_false_eq_true, decide_true, decide_false, Φq, and_self, true_or, or_true, dite_true, dite_false, Φr, Φs, decide_eq_true_eq, decide_eq_false_iff_not, Φt, Φu, Φv, Φw, beq_self_eq_true, Φx, Φy, Φz, ΦA, ΦB, eq_self, hP, h3_3, h3_4, h3_5, h3_6] at hT4
          obtain ⟨h4_3, h4_5, h4_6, h4_18, h4_19, h4_25⟩ := hT4
          clear h3_3 h3_4 h3_5 h3_6 T3
          refine RX.done ?_
          simp (maxSteps := 1000000) only [Φa, Φb, Φc, Φd, ev, Φe, Φf, Φg, Φh, Φi, Φj, Φk, Φl, reduceIte, reduceCtorEq, if_true, if_false, Φm, Φn, Φo, Φp, true_and, and_true, false_and, and_false, true_implies, forall_const, false_implies, ne_eq, not_true_eq_false, not_false_eq_true, decide_true, decide_false, Φq, and_self, true_or, or_true, dite_true, dite_false, Φr, Φs, decide_eq_true_eq, decide_eq_false_iff_not, Φt, Φu, Φv, Φw, beq_self_eq_true, Φx, Φy, Φz, ΦA, ΦB, eq_self, VCplan, ΦC, ΦD, VCops, VQops, guardVC, putVC, VC, VQ, ΦE, ΦF, ΦG, ΦH, ΦI, ΦJ, ΦK, List.getElem?_cons_zero, List.getElem?_cons_succ, List.getElem?_nil, List.getElem?_toArray, ΦL, ΦM, ΦN, ΦO, ΦP, ΦQ, ΦR, ΦS, ΦT, ΦU, ΦV, ΦW, ΦX, ΦY, ΦZ, Ψa, Ψb, Ψc, Ψd, Ψe, Ψf, Ψg, Ψh, Ψi, Ψj, Ψk, Ψl, exists_eq_left, exists_eq_left', exists_const, existsSome, Ψm, Ψn, partVC, buildVC, placeL, fillL, setN, cells_int, cells_bool, cells_string, cells_pointer, cells_slice, cells_agg, oneB_nil, oneB_cons, one_int, one_bool, one_string, one_pointer, one_slice, one_map, one_func, one_nilFunc, one_nilIface, one_iface, cells_map, cells_func, cells_nilFunc, cells_nilIface, cells_iface, T.elA_27, T.lay_27, T.szA_27, T.zr_27, Try.underlying27, inOrd, catV, T.elS_23, T.szA_23, T.zr_23, Try.underlying23, qcall_f, call_f, len_slice, len_str, cap_slice, min_int, max_int, hP, h4_3, h4_5, h4_6, h4_18, h4_19, h4_25]
          intro bb
          refine YAppend.rowL (z := [.int .i64 0, .int .i64 0]) (f := c2) (x := (at_, IntKind.i64.wrap (at_ + lv.getD i 0))) (i := 0) (hP ▸ T.elS_23) (hP ▸ T.zr_27) rfl rfl rfl rfl hrow (by omega) (by decide) (fun v2 s2 hrow2 => ?_)
          try simp (maxSteps := 1000000) only [Φa, Φb, Φc, Φd, ev, Φe, Φf, Φg, Φh, Φi, Φj, Φk, Φl, reduceIte, reduceCtorEq, if_true, if_false, Φm, Φn, Φo, Φp, true_and, and_true, false_and, and_false, true_implies, forall_const, false_implies, ne_eq, not_true_eq_false, not_false_eq_true, decide_true, decide_false, Φq, and_self, true_or, or_true, dite_true, dite_false, Φr, Φs, decide_eq_true_eq, decide_eq_false_iff_not, Φt, Φu, Φv, Φw, beq_self_eq_true, Φx, Φy, Φz, ΦA, ΦB, eq_self, VCplan, ΦC, ΦD, VCops, VQops, guardVC, putVC, VC, VQ, ΦE, ΦF, ΦG, ΦH, ΦI, ΦJ, ΦK, List.getElem?_cons_zero, List.getElem?_cons_succ, List.getElem?_nil, List.getElem?_toArray, ΦL, ΦM, ΦN, ΦO, ΦP, ΦQ, ΦR, ΦS, ΦT, ΦU, ΦV, ΦW, ΦX, ΦY, ΦZ, Ψa, Ψb, Ψc, Ψd, Ψe, Ψf, Ψg, Ψh, Ψi, Ψj, Ψk, Ψl, exists_eq_left, exists_eq_left', exists_const, existsSome, Ψm, Ψn, partVC, buildVC, placeL, fillL, setN, cells_int, cells_bool, cells_string, cells_pointer, cells_slice, cells_agg, oneB_nil, oneB_cons, one_int, one_bool, one_string, one_pointer, one_slice, one_map, one_func, one_nilFunc, one_nilIface, one_iface, cells_map, cells_func, cells_nilFunc, cells_nilIface, cells_iface, T.elA_27, T.lay_27, T.szA_27, T.zr_27, Try.underlying27, inOrd, catV, T.elS_23, T.szA_23, T.zr_23, Try.underlying23, qcall_f, call_f, len_slice, len_str, cap_slice, min_int, max_int, hP, h4_3, h4_5, h4_6, h4_18, h4_19, h4_25]
          refine hK12 (v2, s2, (out ++ [(at_, IntKind.i64.wrap (at_ + lv.getD i 0))])) _ (s2 :: sv :: L) _ (by first | exact Less.refl _ | exact Less.drop _ _ | exact Less.drops (Less.drop _ _) | exact Less.drops (Less.drops (Less.drop _ _)) | exact Less.drops (Less.drops (Less.drops (Less.drop _ _))) | exact Less.drops (Less.drops (Less.drops (Less.drops (Less.drop _ _))))) ?_
          try dsimp only
          refine ⟨?_, ?_, ?_, ?_, ?_, ?_⟩
          · simp (maxSteps := 1000000) only [Φa, Φb, Φc, Φd, ev, Φe, Φf, Φg, Φh, Φi, Φj, Φk, Φl, reduceIte, reduceCtorEq, if_true, if_false, Φm, Φn, Φo, Φp, true_and, and_true, false_and, and_false, true_implies, forall_const, false_implies, ne_eq, not_true_eq_false, not_false_eq_true, decide_true, decide_false, Φq, and_self, true_or, or_true, dite_true, dite_false, Φr, Φs, decide_eq_true_eq, decide_eq_false_iff_not, Φt, Φu, Φv, Φw, beq_self_eq_true, Φx, Φy, Φz, ΦA, ΦB, eq_self, hP, h4_3, h4_5, h4_6, h4_18, h4_19, h4_25]
            first | done | rfl | skip
          · simp (maxSteps := 1000000) only [Φa, Φb, Φc, Φd, ev, Φe, Φf, Φg, Φh, Φi, Φj, Φk, Φl, reduceIte, reduceCtorEq, if_true, if_false, Φm, Φn, Φo, Φp, true_and, and_true, false_and, and_false, true_implies, forall_const, false_implies, ne_eq, not_true_eq_false, not_false_eq_true, decide_true, decide_false, Φq, and_self, true_or, or_true, dite_true, dite_false, Φr, Φs, decide_eq_true_eq, decide_eq_false_iff_not, Φt, Φu, Φv, Φw, beq_self_eq_true, Φx, Φy, Φz, ΦA, ΦB, eq_self, hP, h4_3, h4_5, h4_6, h4_18, h4_19, h4_25]
          · simp (maxSteps := 1000000) only [Φa, Φb, Φc, Φd, ev, Φe, Φf, Φg, Φh, Φi, Φj, Φk, Φl, reduceIte, reduceCtorEq, if_true, if_false, Φm, Φn, Φo, Φp, true_and, and_true, false_and, and_false, true_implies, forall_const, false_implies, ne_eq, not_true_eq_false, not_false_eq_true, decide_true, decide_false, Φq, and_self, true_or, or_true, dite_true, dite_false, Φr, Φs, decide_eq_true_eq, decide_eq_false_iff_not, Φt, Φu, Φv, Φw, beq_self_eq_true, Φx, Φy, Φz, ΦA, ΦB, eq_self, hP, h4_3, h4_5, h4_6, h4_18, h4_19, h4_25]
          · simp (maxSteps := 1000000) only [Φa, Φb, Φc, Φd, ev, Φe, Φf, Φg, Φh, Φi, Φj, Φk, Φl, reduceIte, reduceCtorEq, if_true, if_false, Φm, Φn, Φo, Φp, true_and, and_true, false_and, and_false, true_implies, forall_const, false_implies, ne_eq, not_true_eq_false, not_false_eq_true, decide_true, decide_false, Φq, and_self, true_or, or_true, dite_true, dite_false, Φr, Φs, decide_eq_true_eq, decide_eq_false_iff_not, Φt, Φu, Φv, Φw, beq_self_eq_true, Φx, Φy, Φz, ΦA, ΦB, eq_self, hP, h4_3, h4_5, h4_6, h4_18, h4_19, h4_25]
          · rfl
          · exact ⟨by rw [if_pos (decide_eq_true (by omega))], hrow2, by rw [List.length_append]; simp; omega⟩
        · clear hX14 hY14 X14 Y14
          refine SX.skip ?_
          try simp only [Φe, Φf, Φg, Φh, Φi, Φj, Φk, if_true, if_false, reduceIte]
          refine hK12 (v, s, out) _ (s :: sv :: L) _ (by first | exact Less.refl _ | exact Less.drop _ _ | exact Less.drops (Less.drop _ _) | exact Less.drops (Less.drops (Less.drop _ _)) | exact Less.drops (Less.drops (Less.drops (Less.drop _ _))) | exact Less.drops (Less.drops (Less.drops (Less.drops (Less.drop _ _))))) ?_
          try dsimp only
          refine ⟨?_, ?_, ?_, ?_, ?_, ?_⟩
          · simp (maxSteps := 1000000) only [Φa, Φb, Φc, Φd, ev, Φe, Φf, Φg, Φh, Φi, Φj, Φk, Φl, reduceIte, reduceCtorEq, if_true, if_false, Φm, Φn, Φo, Φp, true_and, and_true, false_and, and_false, true_implies, forall_const, false_implies, ne_eq, not_true_eq_false, not_false_eq_true, decide_true, decide_false, Φq, and_self, true_or, or_true, dite_true, dite_false, Φr, Φs, decide_eq_true_eq, decide_eq_false_iff_not, Φt, Φu, Φv, Φw, beq_self_eq_true, Φx, Φy, Φz, ΦA, ΦB, eq_self, hP, h3_3, h3_4, h3_5, h3_6]
            first | done | rfl | skip
          · simp (maxSteps := 1000000) only [Φa, Φb, Φc, Φd, ev, Φe, Φf, Φg, Φh, Φi, Φj, Φk, Φl, reduceIte, reduceCtorEq, if_true, if_false, Φm, Φn, Φo, Φp, true_and, and_true, false_and, and_false, true_implies, forall_const, false_implies, ne_eq, not_true_eq_false, not_false_eq_true, decide_true, decide_false, Φq, and_self, true_or, or_true, dite_true, dite_false, Φr, Φs, decide_eq_true_eq, decide_eq_false_iff_not, Φt, Φu, Φv, Φw, beq_self_eq_true, Φx, Φy, Φz, ΦA, ΦB, eq_self, hP, h3_3, h3_4, h3_5, h3_6]
          · simp (maxSteps := 1000000) only [Φa, Φb, Φc, Φd, ev, Φe, Φf, Φg, Φh, Φi, Φj, Φk, Φl, reduceIte, reduceCtorEq, if_true, if_false, Φm, Φn, Φo, Φp, true_and, and_true, false_and, and_false, true_implies, forall_const, false_implies, ne_eq, not_true_eq_false, not_false_eq_true, decide_true, decide_false, Φq, and_self, true_or, or_true, dite_true, dite_false, Φr, Φs, decide_eq_true_eq, decide_eq_false_iff_not, Φt, Φu, Φv, Φw, beq_self_eq_true, Φx, Φy, Φz, ΦA, ΦB, eq_self, hP, h3_3, h3_4, h3_5, h3_6]
          · simp (maxSteps := 1000000) only [Φa, Φb, Φc, Φd, ev, Φe, Φf, Φg, Φh, Φi, Φj, Φk, Φl, reduceIte, reduceCtorEq, if_true, if_false, Φm, Φn, Φo, Φp, true_and, and_true, false_and, and_false, true_implies, forall_const, false_implies, ne_eq, not_true_eq_false, not_false_eq_true, decide_true, decide_false, Φq, and_self, true_or, or_true, dite_true, dite_false, Φr, Φs, decide_eq_true_eq, decide_eq_false_iff_not, Φt, Φu, Φv, Φw, beq_self_eq_true, Φx, Φy, Φz, ΦA, ΦB, eq_self, hP, h3_3, h3_4, h3_5, h3_6]
          · rfl
          · exact ⟨by rw [if_neg (by rw [decide_eq_false (by omega)]; decide), List.append_nil], hrow, by omega⟩
      · intro ss T5 L5 hI
        obtain ⟨v1, s1, out1⟩ := ss
        try dsimp only at hI 
        simp only [h3_3, h3_5, h3_6] at hI 
        obtain ⟨h5_4, h5_3, h5_5, h5_6, hL5, ⟨hout1, hrow1, hol1⟩⟩ := hI
        replace hL5 := hL5.symm
        subst hL5
        clear h3_3 h3_4 h3_5 h3_6 T3
        obtain ⟨X2, Y2, e2, -, hB⟩ := RowI.sl (Γ := Γ) (L := s1 :: sv :: L) (i := 1) hlev rfl
        cases e2
        obtain ⟨a, ha, hcell⟩ := hB i _ (getD_at (show i < lv.length by omega))
        simp only [RInt, Ψl] at hcell
        refine SX.region ?_
        simp (maxSteps := 1000000) only [Φa, Φb, Φc, Φd, ev, Φe, Φf, Φg, Φh, Φi, Φj, Φk, Φl, reduceIte, reduceCtorEq, if_true, if_false, Φm, Φn, Φo, Φp, true_and, and_true, false_and, and_false, true_implies, forall_const, false_implies, ne_eq, not_true_eq_false, not_false_eq_true, decide_true, decide_false, Φq, and_self, true_or, or_true, dite_true, dite_false, Φr, Φs, decide_eq_true_eq, decide_eq_false_iff_not, Φt, Φu, Φv, Φw, beq_self_eq_true, Φx, Φy, Φz, ΦA, ΦB, eq_self, VCplan, ΦC, ΦD, VCops, VQops, guardVC, putVC, VC, VQ, ΦE, ΦF, ΦG, ΦH, ΦI, ΦJ, ΦK, List.getElem?_cons_zero, List.getElem?_cons_succ, List.getElem?_nil, List.getElem?_toArray, ΦL, ΦM, ΦN, ΦO, ΦP, ΦQ, ΦR, ΦS, ΦT, ΦU, ΦV, ΦW, ΦX, ΦY, ΦZ, Ψa, Ψb, Ψc, Ψd, Ψe, Ψf, Ψg, Ψh, Ψi, Ψj, Ψk, Ψl, exists_eq_left, exists_eq_left', exists_const, existsSome, Ψm, Ψn, ia_slice, ia_arr, Addr.add_lit, Addr.add_zero', add_addS, Int.toNat_natCast, Int.toNat_zero, Int.toNat_one, Int.reduceToNat, T.elS_35, T.szA_35, T.zr_35, Try.underlying35, ld_ptr, loadVC, loadN, T.szA_3, T.zr_3, Try.underlying3, bin_add, bin_adds, hP, h5_4, h5_3, h5_5, h5_6]
        refine ⟨⟨by omega, by omega⟩, a, ha, _, hcell, ?_⟩
        try simp (maxSteps := 1000000) only [Φa, Φb, Φc, Φd, ev, Φe, Φf, Φg, Φh, Φi, Φj, Φk, Φl, reduceIte, reduceCtorEq, if_true, if_false, Φm, Φn, Φo, Φp, true_and, and_true, false_and, and_false, true_implies, forall_const, false_implies, ne_eq, not_true_eq_false, not_false_eq_true, decide_true, decide_false, Φq, and_self, true_or, or_true, dite_true, dite_false, Φr, Φs, decide_eq_true_eq, decide_eq_false_iff_not, Φt, Φu, Φv, Φw, beq_self_eq_true, Φx, Φy, Φz, ΦA, ΦB, eq_self, VCplan, ΦC, ΦD, VCops, VQops, guardVC, putVC, VC, VQ, ΦE, ΦF, ΦG, ΦH, ΦI, ΦJ, ΦK, List.getElem?_cons_zero, List.getElem?_cons_succ, List.getElem?_nil, List.getElem?_toArray, ΦL, ΦM, ΦN, ΦO, ΦP, ΦQ, ΦR, ΦS, ΦT, ΦU, ΦV, ΦW, ΦX, ΦY, ΦZ, Ψa, Ψb, Ψc, Ψd, Ψe, Ψf, Ψg, Ψh, Ψi, Ψj, Ψk, Ψl, exists_eq_left, exists_eq_left', exists_const, existsSome, Ψm, Ψn, ia_slice, ia_arr, Addr.add_lit, Addr.add_zero', add_addS, Int.toNat_natCast, Int.toNat_zero, Int.toNat_one, Int.reduceToNat, T.elS_35, T.szA_35, T.zr_35, Try.underlying35, ld_ptr, loadVC, loadN, T.szA_3, T.zr_3, Try.underlying3, bin_add, bin_adds, hP, h5_4, h5_3, h5_5, h5_6]
        refine hK11 _ _ ?_
        try clear hK11 K11
        refine SX.region ?_
        simp (maxSteps := 1000000) only [Φa, Φb, Φc, Φd, ev, Φe, Φf, Φg, Φh, Φi, Φj, Φk, Φl, reduceIte, reduceCtorEq, if_true, if_false, Φm, Φn, Φo, Φp, true_and, and_true, false_and, and_false, true_implies, forall_const, false_implies, ne_eq, not_true_eq_false, not_false_eq_true, decide_true, decide_false, Φq, and_self, true_or, or_true, dite_true, dite_false, Φr, Φs, decide_eq_true_eq, decide_eq_false_iff_not, Φt, Φu, Φv, Φw, beq_self_eq_true, Φx, Φy, Φz, ΦA, ΦB, eq_self, VCplan, ΦC, ΦD, VCops, VQops, guardVC, putVC, VC, VQ, ΦE, ΦF, ΦG, ΦH, ΦI, ΦJ, ΦK, List.getElem?_cons_zero, List.getElem?_cons_succ, List.getElem?_nil, List.getElem?_toArray, ΦL, ΦM, ΦN, ΦO, ΦP, ΦQ, ΦR, ΦS, ΦT, ΦU, ΦV, ΦW, ΦX, ΦY, ΦZ, Ψa, Ψb, Ψc, Ψd, Ψe, Ψf, Ψg, Ψh, Ψi, Ψj, Ψk, Ψl, exists_eq_left, exists_eq_left', exists_const, existsSome, Ψm, Ψn, bin_add, bin_adds, hP, h5_4, h5_3, h5_5, h5_6]
        refine hK7 ((i + 1), (IntKind.i64.wrap (at_ + lv.getD i 0)), v1, s1, out1) _ (s1 :: sv :: L) _ (by first | exact Less.refl _ | exact Less.drop _ _ | exact Less.drops (Less.drop _ _) | exact Less.drops (Less.drops (Less.drop _ _)) | exact Less.drops (Less.drops (Less.drops (Less.drop _ _))) | exact Less.drops (Less.drops (Less.drops (Less.drops (Less.drop _ _))))) ?_ ?_
        · try dsimp only
          refine ⟨?_, ?_, ?_, ?_, ?_, ?_⟩
          · simp (maxSteps := 1000000) only [Φa, Φb, Φc, Φd, ev, Φe, Φf, Φg, Φh, Φi, Φj, Φk, Φl, reduceIte, reduceCtorEq, if_true, if_false, Φm, Φn, Φo, Φp, true_and, and_true, false_and, and_false, true_implies, forall_const, false_implies, ne_eq, not_true_eq_false, not_false_eq_true, decide_true, decide_false, Φq, and_self, true_or, or_true, dite_true, dite_false, Φr, Φs, decide_eq_true_eq, decide_eq_false_iff_not, Φt, Φu, Φv, Φw, beq_self_eq_true, Φx, Φy, Φz, ΦA, ΦB, eq_self, hP, h5_4, h5_3, h5_5, h5_6]
            first | done | rfl | skip
          · simp (maxSteps := 1000000) only [Φa, Φb, Φc, Φd, ev, Φe, Φf, Φg, Φh, Φi, Φj, Φk, Φl, reduceIte, reduceCtorEq, if_true, if_false, Φm, Φn, Φo, Φp, true_and, and_true, false_and, and_false, true_implies, forall_const, false_implies, ne_eq, not_true_eq_false, not_false_eq_true, decide_true, decide_false, Φq, and_self, true_or, or_true, dite_true, dite_false, Φr, Φs, decide_eq_true_eq, decide_eq_false_iff_not, Φt, Φu, Φv, Φw, beq_self_eq_true, Φx, Φy, Φz, ΦA, ΦB, eq_self, hP, h5_4, h5_3, h5_5, h5_6]
            first | done | rfl | skip
          · simp (maxSteps := 1000000) only [Φa, Φb, Φc, Φd, ev, Φe, Φf, Φg, Φh, Φi, Φj, Φk, Φl, reduceIte, reduceCtorEq, if_true, if_false, Φm, Φn, Φo, Φp, true_and, and_true, false_and, and_false, true_implies, forall_const, false_implies, ne_eq, not_true_eq_false, not_false_eq_true, decide_true, decide_false, Φq, and_self, true_or, or_true, dite_true, dite_false, Φr, Φs, decide_eq_true_eq, decide_eq_false_iff_not, Φt, Φu, Φv, Φw, beq_self_eq_true, Φx, Φy, Φz, ΦA, ΦB, eq_self, hP, h5_4, h5_3, h5_5, h5_6]
            rw [inc64 (by omega)]
          · simp (maxSteps := 1000000) only [Φa, Φb, Φc, Φd, ev, Φe, Φf, Φg, Φh, Φi, Φj, Φk, Φl, reduceIte, reduceCtorEq, if_true, if_false, Φm, Φn, Φo, Φp, true_and, and_true, false_and, and_false, true_implies, forall_const, false_implies, ne_eq, not_true_eq_false, not_false_eq_true, decide_true, decide_false, Φq, and_self, true_or, or_true, dite_true, dite_false, Φr, Φs, decide_eq_true_eq, decide_eq_false_iff_not, Φt, Φu, Φv, Φw, beq_self_eq_true, Φx, Φy, Φz, ΦA, ΦB, eq_self, hP, h5_4, h5_3, h5_5, h5_6]
          · rfl
          · refine ⟨by omega, ?_, hrow1, hol1⟩
            rw [hb, drop_i (by omega), bF, hout1, List.append_assoc, show (!decide (i % 2 = 1)) = decide ((i + 1) % 2 = 1) from by rw [← decide_not]; exact decide_eq_decide.2 (by omega)]
        · (try dsimp only); omega
    · clear hX10 hY10 X10 Y10
      refine SX.exit ?_
      try simp only [Φe, Φf, Φg, Φh, Φi, Φj, Φk, if_true, if_false, reduceIte]
      refine hK5 _ _ ?_
      try clear hK5 K5
      refine SX.seq_k fun K16 hK16 => ?_
      refine SX.region ?_
      simp (maxSteps := 1000000) only [Φa, Φb, Φc, Φd, ev, Φe, Φf, Φg, Φh, Φi, Φj, Φk, Φl, reduceIte, reduceCtorEq, if_true, if_false, Φm, Φn, Φo, Φp, true_and, and_true, false_and, and_false, true_implies, forall_const, false_implies, ne_eq, not_true_eq_false, not_false_eq_true, decide_true, decide_false, Φq, and_self, true_or, or_true, dite_true, dite_false, Φr, Φs, decide_eq_true_eq, decide_eq_false_iff_not, Φt, Φu, Φv, Φw, beq_self_eq_true, Φx, Φy, Φz, ΦA, ΦB, eq_self, VCplan, ΦC, ΦD, VCops, VQops, guardVC, putVC, VC, VQ, ΦE, ΦF, ΦG, ΦH, ΦI, ΦJ, ΦK, List.getElem?_cons_zero, List.getElem?_cons_succ, List.getElem?_nil, List.getElem?_toArray, ΦL, ΦM, ΦN, ΦO, ΦP, ΦQ, ΦR, ΦS, ΦT, ΦU, ΦV, ΦW, ΦX, ΦY, ΦZ, Ψa, Ψb, Ψc, Ψd, Ψe, Ψf, Ψg, Ψh, Ψi, Ψj, Ψk, Ψl, exists_eq_left, exists_eq_left', exists_const, existsSome, Ψm, Ψn, hP, h2_4, h2_5, h2_6, h2_3]
      refine hK16 _ _ ?_
      try clear hK16 K16
      refine SX.ret ?_
      simp only [Φe, Φf, Φg, Φh, Φi, Φj, Φk, if_true, if_false, reduceIte, retQ_ret]
      try simp only [res0, res1, res2, res3, Φa, Φb, Φc, Φd, ev, Φe, Φf, Φg, Φh, Φi, Φj, Φk, Φl, reduceIte, reduceCtorEq, if_true, if_false, Φm, Φn, Φo, Φp, true_and, and_true, false_and, and_false, true_implies, forall_const, false_implies, ne_eq, not_true_eq_false, not_false_eq_true, decide_true, decide_false, Φq, and_self, true_or, or_true, dite_true, dite_false, Φr, Φs, decide_eq_true_eq, decide_eq_false_iff_not, Φt, Φu, Φv, Φw, beq_self_eq_true, Φx, Φy, Φz, ΦA, ΦB, eq_self, hP, h2_4, h2_5, h2_6, h2_3]
      refine ⟨_, _, Less.drop1 _ _ _, rfl, s, rfl, ?_⟩
      obtain rfl : i = lv.length := by omega
      rw [← refBeep_eq hm, hlv, hb, List.drop_length, bF, List.append_nil]
      exact hrow
set_option maxHeartbeats 1000000 in
set_option maxRecDepth 100000 in
theorem refWaves_spec {Γ : Ctx} (hP : Γ.P = Try.prog) {L : Hp} {A : Option Addr} {c : Nat} {qs : List Bool} (hm : qs.length < 2147483648) (hc : qs.length ≤ c) (hq : Recs Γ L A qs) :
    SCall Γ 13 #[(.slice A qs.length c)] L (fun v L' => ∃ s, L' = s :: L ∧ RowL c2 34 2 v (waveF (rows qs)) s) := by
  refine SCall.enter (n := 36) (res1 2) (hP ▸ Try.func13) rfl rfl (by simp) (res1_ok rfl) ?_
  refine SX.seq_k fun K1 hK1 => ?_
  refine SX.region ?_
  simp (maxSteps := 1000000) only [Φa, Φb, Φc, Φd, ev, Φe, Φf, Φg, Φh, Φi, Φj, Φk, Φl, reduceIte, reduceCtorEq, if_true, if_false, Φm, Φn, Φo, Φp, true_and, and_true, false_and, and_false, true_implies, forall_const, false_implies, ne_eq, not_true_eq_false, not_false_eq_true, decide_true, decide_false, Φq, and_self, true_or, or_true, dite_true, dite_false, Φr, Φs, decide_eq_true_eq, decide_eq_false_iff_not, Φt, Φu, Φv, Φw, beq_self_eq_true, Φx, Φy, Φz, ΦA, ΦB, eq_self, VCplan, ΦC, ΦD, VCops, VQops, guardVC, putVC, VC, VQ, ΦE, ΦF, ΦG, ΦH, ΦI, ΦJ, ΦK, List.getElem?_cons_zero, List.getElem?_cons_succ, List.getElem?_nil, List.getElem?_toArray, ΦL, ΦM, ΦN, ΦO, ΦP, ΦQ, ΦR, ΦS, ΦT, ΦU, ΦV, ΦW, ΦX, ΦY, ΦZ, Ψa, Ψb, Ψc, Ψd, Ψe, Ψf, Ψg, Ψh, Ψi, Ψj, Ψk, Ψl, exists_eq_left, exists_eq_left', exists_const, existsSome, Ψm, Ψn, hP]
  refine hK1 _ _ ?_
  try clear hK1 K1
  refine SX.seq_k fun K2 hK2 => ?_
  refine SX.region ?_
  simp (maxSteps := 1000000) only [Φa, Φb, Φc, Φd, ev, Φe, Φf, Φg, Φh, Φi, Φj, Φk, Φl, reduceIte, reduceCtorEq, if_true, if_false, Φm, Φn, Φo, Φp, true_and, and_true, false_and, and_false, true_implies, forall_const, false_implies, ne_eq, not_true_eq_false, not_false_eq_true, decide_true, decide_false, Φq, and_self, true_or, or_true, dite_true, dite_false, Φr, Φs, decide_eq_true_eq, decide_eq_false_iff_not, Φt, Φu, Φv, Φw, beq_self_eq_true, Φx, Φy, Φz, ΦA, ΦB, eq_self, VCplan, ΦC, ΦD, VCops, VQops, guardVC, putVC, VC, VQ, ΦE, ΦF, ΦG, ΦH, ΦI, ΦJ, ΦK, List.getElem?_cons_zero, List.getElem?_cons_succ, List.getElem?_nil, List.getElem?_toArray, ΦL, ΦM, ΦN, ΦO, ΦP, ΦQ, ΦR, ΦS, ΦT, ΦU, ΦV, ΦW, ΦX, ΦY, ΦZ, Ψa, Ψb, Ψc, Ψd, Ψe, Ψf, Ψg, Ψh, Ψi, Ψj, Ψk, Ψl, exists_eq_left, exists_eq_left', exists_const, existsSome, Ψm, Ψn, qcall_f, call_f, len_slice, len_str, cap_slice, min_int, max_int, T.elS_22, T.szA_22, T.zr_22, Try.underlying22, T.callable_16, hP]
  refine SCall.mono (refLevels_spec hP hm hc hq) ?_
  rintro v_ L_ ⟨sv, hL_, hlev⟩
  rw [hL_]
  clear hL_ L_
  rw [refLev_eq hm] at hlev
  generalize hlv : levF (rows qs) = lv at hlev
  have hlen : lv.length ≤ 4294967296 := by rw [← hlv]; have := levF_len (rows qs); have := rows_len qs; omega
  obtain ⟨X1, Y1, rfl, -, -⟩ := Row.form hlev
  try simp (maxSteps := 1000000) only [Φa, Φb, Φc, Φd, ev, Φe, Φf, Φg, Φh, Φi, Φj, Φk, Φl, reduceIte, reduceCtorEq, if_true, if_false, Φm, Φn, Φo, Φp, true_and, and_true, false_and, and_false, true_implies, forall_const, false_implies, ne_eq, not_true_eq_false, not_false_eq_true, decide_true, decide_false, Φq, and_self, true_or, or_true, dite_true, dite_false, Φr, Φs, decide_eq_true_eq, decide_eq_false_iff_not, Φt, Φu, Φv, Φw, beq_self_eq_true, Φx, Φy, Φz, ΦA, ΦB, eq_self, VCplan, ΦC, ΦD, VCops, VQops, guardVC, putVC, VC, VQ, ΦE, ΦF, ΦG, ΦH, ΦI, ΦJ, ΦK, List.getElem?_cons_zero, List.getElem?_cons_succ, List.getElem?_nil, List.getElem?_toArray, ΦL, ΦM, ΦN, ΦO, ΦP, ΦQ, ΦR, ΦS, ΦT, ΦU, ΦV, ΦW, ΦX, ΦY, ΦZ, Ψa, Ψb, Ψc, Ψd, Ψe, Ψf, Ψg, Ψh, Ψi, Ψj, Ψk, Ψl, exists_eq_left, exists_eq_left', exists_const, existsSome, Ψm, Ψn, qcall_f, call_f, len_slice, len_str, cap_slice, min_int, max_int, T.elS_22, T.szA_22, T.zr_22, Try.underlying22, T.callable_16, hP]
  refine hK2 _ _ ?_
  try clear hK2 K2
  refine SX.seq_k fun K3 hK3 => ?_
  refine SX.region ?_
  simp (maxSteps := 1000000) only [Φa, Φb, Φc, Φd, ev, Φe, Φf, Φg, Φh, Φi, Φj, Φk, Φl, reduceIte, reduceCtorEq, if_true, if_false, Φm, Φn, Φo, Φp, true_and, and_true, false_and, and_false, true_implies, forall_const, false_implies, ne_eq, not_true_eq_false, not_false_eq_true, decide_true, decide_false, Φq, and_self, true_or, or_true, dite_true, dite_false, Φr, Φs, decide_eq_true_eq, decide_eq_false_iff_not, Φt, Φu, Φv, Φw, beq_self_eq_true, Φx, Φy, Φz, ΦA, ΦB, eq_self, VCplan, ΦC, ΦD, VCops, VQops, guardVC, putVC, VC, VQ, ΦE, ΦF, ΦG, ΦH, ΦI, ΦJ, ΦK, List.getElem?_cons_zero, List.getElem?_cons_succ, List.getElem?_nil, List.getElem?_toArray, ΦL, ΦM, ΦN, ΦO, ΦP, ΦQ, ΦR, ΦS, ΦT, ΦU, ΦV, ΦW, ΦX, ΦY, ΦZ, Ψa, Ψb, Ψc, Ψd, Ψe, Ψf, Ψg, Ψh, Ψi, Ψj, Ψk, Ψl, exists_eq_left, exists_eq_left', exists_const, existsSome, Ψm, Ψn, hP]
  refine hK3 _ _ ?_
  try clear hK3 K3
  refine SX.seq_k fun K4 hK4 => ?_
  refine SX.seq_k fun K5 hK5 => ?_
  refine SX.region ?_
  simp (maxSteps := 1000000) only [Φa, Φb, Φc, Φd, ev, Φe, Φf, Φg, Φh, Φi, Φj, Φk, Φl, reduceIte, reduceCtorEq, if_true, if_false, Φm, Φn, Φo, Φp, true_and, and_true, false_and, and_false, true_implies, forall_const, false_implies, ne_eq, not_true_eq_false, not_false_eq_true, decide_true, decide_false, Φq, and_self, true_or, or_true, dite_true, dite_false, Φr, Φs, decide_eq_true_eq, decide_eq_false_iff_not, Φt, Φu, Φv, Φw, beq_self_eq_true, Φx, Φy, Φz, ΦA, ΦB, eq_self, VCplan, ΦC, ΦD, VCops, VQops, guardVC, putVC, VC, VQ, ΦE, ΦF, ΦG, ΦH, ΦI, ΦJ, ΦK, List.getElem?_cons_zero, List.getElem?_cons_succ, List.getElem?_nil, List.getElem?_toArray, ΦL, ΦM, ΦN, ΦO, ΦP, ΦQ, ΦR, ΦS, ΦT, ΦU, ΦV, ΦW, ΦX, ΦY, ΦZ, Ψa, Ψb, Ψc, Ψd, Ψe, Ψf, Ψg, Ψh, Ψi, Ψj, Ψk, Ψl, exists_eq_left, exists_eq_left', exists_const, existsSome, Ψm, Ψn, hP]
  refine hK5 _ _ ?_
  try clear hK5 K5
  refine SX.block ?_
  refine SX.less (Less.none _) ?_
  refine SX.live [3, 4, 5] (fun T1 hT1 => ?_)
  simp only [forall_mem_cons', forall_mem_nil', Φa, Φb, Φc, Φd, ev, Φe, Φf, Φg, Φh, Φi, Φj, Φk, Φl, reduceIte, reduceCtorEq, if_true, if_false, Φm, Φn, Φo, Φp, true_and, and_true, false_and, and_false, true_implies, forall_const, false_implies, ne_eq, not_true_eq_false, not_false_eq_true, decide_true, decide_false, Φq, and_self, true_or, or_true, dite_true, dite_false, Φr, Φs, decide_eq_true_eq, decide_eq_false_iff_not, Φt, Φu, Φv, Φw, beq_self_eq_true, Φx, Φy, Φz, ΦA, ΦB, eq_self, hP] at hT1
  obtain ⟨h1_3, h1_4, h1_5⟩ := hT1
  refine SX.loop_k (fun (ss : (Nat) × (Value) × (Slot) × (List B2)) T L' => (fun (i : Nat) (v : Value) (s : Slot) (out : List B2) => T 4 = v ∧ T 5 = .int .i64 (i : Int) ∧ T 3 = T1 3 ∧ L' = s :: sv :: L ∧ ((1 ≤ i ∧ i ≤ lv.length + 1) ∧ wG (lv.drop 1) = out ++ wG (lv.drop i) ∧ RowL c2 34 2 v out s ∧ out.length ≤ i)) (ss.1) (ss.2.1) (ss.2.2.1) (ss.2.2.2)) (fun (ss : (Nat) × (Value) × (Slot) × (List B2)) => (fun (i : Nat) (v : Value) (s : Slot) (out : List B2) => lv.length + 1 - i) (ss.1) (ss.2.1) (ss.2.2.1) (ss.2.2.2)) (1, .slice none 0 0, none, []) ?_ ?_
  · try dsimp only
    refine ⟨?_, ?_, ?_, ?_, ?_⟩
    · first | exact h1_4 | (rw [h1_4]; rfl) | (rw [h1_4]; simp; done)
    · first | exact h1_5 | (rw [h1_5]; rfl) | (rw [h1_5]; simp; done)
    · rfl
    · rfl
    · exact ⟨⟨by omega, by omega⟩, rfl, RowL.nil _ _ _, by decide⟩
  · intro ss T2 L2 hI K6 hK6
    obtain ⟨i, v, s, out⟩ := ss
    try dsimp only at hI hK6
    simp only [h1_3] at hI hK6
    obtain ⟨h2_4, h2_5, h2_3, hL2, ⟨hi, hb, hrow, hol⟩⟩ := hI
    replace hL2 := hL2.symm
    subst hL2
    clear h1_3 h1_4 h1_5 T1
    have hw : IntKind.i64.wrap ((i : Int) + 1) = ((i + 1 : Nat) : Int) := by rw [w64 (by omega)]; rfl
    refine SX.seq_k fun K7 hK7 => ?_
    refine SX.seq_k fun K8 hK8 => ?_
    refine SX.region ?_
    simp (maxSteps := 1000000) only [Φa, Φb, Φc, Φd, ev, Φe, Φf, Φg, Φh, Φi, Φj, Φk, Φl, reduceIte, reduceCtorEq, if_true, if_false, Φm, Φn, Φo, Φp, true_and, and_true, false_and, and_false, true_implies, forall_const, false_implies, ne_eq, not_true_eq_false, not_false_eq_true, decide_true, decide_false, Φq, and_self, true_or, or_true, dite_true, dite_false, Φr, Φs, decide_eq_true_eq, decide_eq_false_iff_not, Φt, Φu, Φv, Φw, beq_self_eq_true, Φx, Φy, Φz, ΦA, ΦB, eq_self, VCplan, ΦC, ΦD, VCops, VQops, guardVC, putVC, VC, VQ, ΦE, ΦF, ΦG, ΦH, ΦI, ΦJ, ΦK, List.getElem?_cons_zero, List.getElem?_cons_succ, List.getElem?_nil, List.getElem?_toArray, ΦL, ΦM, ΦN, ΦO, ΦP, ΦQ, ΦR, ΦS, ΦT, ΦU, ΦV, ΦW, ΦX, ΦY, ΦZ, Ψa, Ψb, Ψc, Ψd, Ψe, Ψf, Ψg, Ψh, Ψi, Ψj, Ψk, Ψl, exists_eq_left, exists_eq_left', exists_const, existsSome, Ψm, Ψn, qcall_f, call_f, len_slice, len_str, cap_slice, min_int, max_int, T.elS_35, T.szA_35, T.zr_35, Try.underlying35, bin_lss, hP, h2_4, h2_5, h2_3]
    refine hK8 _ _ ?_
    try clear hK8 K8
    refine SX.cond_k fun X9 Y9 hX9 hY9 => ?_
    simp (maxSteps := 1000000) only [Φa, Φb, Φc, Φd, ev, Φe, Φf, Φg, Φh, Φi, Φj, Φk, Φl, reduceIte, reduceCtorEq, if_true, if_false, Φm, Φn, Φo, Φp, true_and, and_true, false_and, and_false, true_implies, forall_const, false_implies, ne_eq, not_true_eq_false, not_false_eq_true, decide_true, decide_false, Φq, and_self, true_or, or_true, dite_true, dite_false, Φr, Φs, decide_eq_true_eq, decide_eq_false_iff_not, Φt, Φu, Φv, Φw, beq_self_eq_true, Φx, Φy, Φz, ΦA, ΦB, eq_self, hP, h2_4, h2_5, h2_3, condVC]
    refine ⟨fun hc12 => hX9 ?_, fun hc12 => hY9 ?_⟩
    · clear hX9 hY9 X9 Y9
      refine SX.skip ?_
      try simp only [Φe, Φf, Φg, Φh, Φi, Φj, Φk, if_true, if_false, reduceIte]
      refine hK7 _ _ ?_
      try clear hK7 K7
      refine SX.seq_k fun K10 hK10 => ?_
      refine SX.block ?_
      refine SX.seq_k fun K11 hK11 => ?_
      obtain ⟨X2, Y2, e2, -, hB⟩ := RowI.sl (Γ := Γ) (L := s :: sv :: L) (i := 1) hlev rfl
      cases e2
      obtain ⟨a, ha, hcell⟩ := hB (i) _ (getD_at (show i < lv.length by omega))
      simp only [RInt, Ψl] at hcell
      refine SX.region ?_
      simp (maxSteps := 1000000) only [Φa, Φb, Φc, Φd, ev, Φe, Φf, Φg, Φh, Φi, Φj, Φk, Φl, reduceIte, reduceCtorEq, if_true, if_false, Φm, Φn, Φo, Φp, true_and, and_true, false_and, and_false, true_implies, forall_const, false_implies, ne_eq, not_true_eq_false, not_false_eq_true, decide_true, decide_false, Φq, and_self, true_or, or_true, dite_true, dite_false, Φr, Φs, decide_eq_true_eq, decide_eq_false_iff_not, Φt, Φu, Φv, Φw, beq_self_eq_true, Φx, Φy, Φz, ΦA, ΦB, eq_self, VCplan, ΦC, ΦD, VCops, VQops, guardVC, putVC, VC, VQ, ΦE, ΦF, ΦG, ΦH, ΦI, ΦJ, ΦK, List.getElem?_cons_zero, List.getElem?_cons_succ, List.getElem?_nil, List.getElem?_toArray, ΦL, ΦM, ΦN, ΦO, ΦP, ΦQ, ΦR, ΦS, ΦT, ΦU, ΦV, ΦW, ΦX, ΦY, ΦZ, Ψa, Ψb, Ψc, Ψd, Ψe, Ψf, Ψg, Ψh, Ψi, Ψj, Ψk, Ψl, exists_eq_left, exists_eq_left', exists_const, existsSome, Ψm, Ψn, ia_slice, ia_arr, Addr.add_lit, Addr.add_zero', add_addS, Int.toNat_natCast, Int.toNat_zero, Int.toNat_one, Int.reduceToNat, T.elS_35, T.szA_35, T.zr_35, Try.underlying35, ld_ptr, loadVC, loadN, T.szA_3, T.zr_3, Try.underlying3, partVC, buildVC, placeL, fillL, setN, cells_int, cells_bool, cells_string, cells_pointer, cells_slice, cells_agg, oneB_nil, oneB_cons, one_int, one_bool, one_string, one_pointer, one_slice, one_map, one_func, one_nilFunc, one_nilIface, one_iface, cells_map, cells_func, cells_nilFunc, cells_nilIface, cells_iface, T.elA_34, T.lay_34, T.szA_34, T.zr_34, Try.underlying34, st_ptr, storeVC, hP, h2_4, h2_5, h2_3]
      refine ⟨⟨by omega, by omega⟩, a, ha, _, hcell, ?_⟩
      try simp (maxSteps := 1000000) only [Φa, Φb, Φc, Φd, ev, Φe, Φf, Φg, Φh, Φi, Φj, Φk, Φl, reduceIte, reduceCtorEq, if_true, if_false, Φm, Φn, Φo, Φp, true_and, and_true, false_and, and_false, true_implies, forall_const, false_implies, ne_eq, not_true_eq_false, not_false_eq_true, decide_true, decide_false, Φq, and_self, true_or, or_true, dite_true, dite_false, Φr, Φs, decide_eq_true_eq, decide_eq_false_iff_not, Φt, Φu, Φv, Φw, beq_self_eq_true, Φx, Φy, Φz, ΦA, ΦB, eq_self, VCplan, ΦC, ΦD, VCops, VQops, guardVC, putVC, VC, VQ, ΦE, ΦF, ΦG, ΦH, ΦI, ΦJ, ΦK, List.getElem?_cons_zero, List.getElem?_cons_succ, List.getElem?_nil, List.getElem?_toArray, ΦL, ΦM, ΦN, ΦO, ΦP, ΦQ, ΦR, ΦS, ΦT, ΦU, ΦV, ΦW, ΦX, ΦY, ΦZ, Ψa, Ψb, Ψc, Ψd, Ψe, Ψf, Ψg, Ψh, Ψi, Ψj, Ψk, Ψl, exists_eq_left, exists_eq_left', exists_const, existsSome, Ψm, Ψn, ia_slice, ia_arr, Addr.add_lit, Addr.add_zero', add_addS, Int.toNat_natCast, Int.toNat_zero, Int.toNat_one, Int.reduceToNat, T.elS_35, T.szA_35, T.zr_35, Try.underlying35, ld_ptr, loadVC, loadN, T.szA_3, T.zr_3, Try.underlying3, partVC, buildVC, placeL, fillL, setN, cells_int, cells_bool, cells_string, cells_pointer, cells_slice, cells_agg, oneB_nil, oneB_cons, one_int, one_bool, one_string, one_pointer, one_slice, one_map, one_func, one_nilFunc, one_nilIface, one_iface, cells_map, cells_func, cells_nilFunc, cells_nilIface, cells_iface, T.elA_34, T.lay_34, T.szA_34, T.zr_34, Try.underlying34, st_ptr, storeVC, hP, h2_4, h2_5, h2_3]
      intro bw
      refine ⟨0, _, _, _, rfl, by first | decide | simp, .inr (by first | decide | simp), ?_⟩
      try simp (maxSteps := 1000000) only [Φa, Φb, Φc, Φd, ev, Φe, Φf, Φg, Φh, Φi, Φj, Φk, Φl, reduceIte, reduceCtorEq, if_true, if_false, Φm, Φn, Φo, Φp, true_and, and_true, false_and, and_false, true_implies, forall_const, false_implies, ne_eq, not_true_eq_false, not_false_eq_true, decide_true, decide_false, Φq, and_self, true_or, or_true, dite_true, dite_false, Φr, Φs, decide_eq_true_eq, decide_eq_false_iff_not, Φt, Φu, Φv, Φw, beq_self_eq_true, Φx, Φy, Φz, ΦA, ΦB, eq_self, VCplan, ΦC, ΦD, VCops, VQops, guardVC, putVC, VC, VQ, ΦE, ΦF, ΦG, ΦH, ΦI, ΦJ, ΦK, List.getElem?_cons_zero, List.getElem?_cons_succ, List.getElem?_nil, List.getElem?_toArray, ΦL, ΦM, ΦN, ΦO, ΦP, ΦQ, ΦR, ΦS, ΦT, ΦU, ΦV, ΦW, ΦX, ΦY, ΦZ, Ψa, Ψb, Ψc, Ψd, Ψe, Ψf, Ψg, Ψh, Ψi, Ψj, Ψk, Ψl, exists_eq_left, exists_eq_left', exists_const, existsSome, Ψm, Ψn, ia_slice, ia_arr, Addr.add_lit, Addr.add_zero', add_addS, Int.toNat_natCast, Int.toNat_zero, Int.toNat_one, Int.reduceToNat, T.elS_35, T.szA_35, T.zr_35, Try.underlying35, ld_ptr, loadVC, loadN, T.szA_3, T.zr_3, Try.underlying3, partVC, buildVC, placeL, fillL, setN, cells_int, cells_bool, cells_string, cells_pointer, cells_slice, cells_agg, oneB_nil, oneB_cons, one_int, one_bool, one_string, one_pointer, one_slice, one_map, one_func, one_nilFunc, one_nilIface, one_iface, cells_map, cells_func, cells_nilFunc, cells_nilIface, cells_iface, T.elA_34, T.lay_34, T.szA_34, T.zr_34, Try.underlying34, st_ptr, storeVC, hP, h2_4, h2_5, h2_3]
      refine hK11 _ _ ?_
      try clear hK11 K11
      refine SX.live [3, 4, 5, 6] (fun T3 hT3 => ?_)
      simp only [forall_mem_cons', forall_mem_nil', Φa, Φb, Φc, Φd, ev, Φe, Φf, Φg, Φh, Φi, Φj, Φk, Φl, reduceIte, reduceCtorEq, if_true, if_false, Φm, Φn, Φo, Φp, true_and, and_true, false_and, and_false, true_implies, forall_const, false_implies, ne_eq, not_true_eq_false, not_false_eq_true, decide_true, decide_false, Φq, and_self, true_or, or_true, dite_true, dite_false, Φr, Φs, decide_eq_true_eq, decide_eq_false_iff_not, Φt, Φu, Φv, Φw, beq_self_eq_true, Φx, Φy, Φz, ΦA, ΦB, eq_self, hP, h2_4, h2_5, h2_3] at hT3
      obtain ⟨h3_3, h3_4, h3_5, h3_6⟩ := hT3
      clear h2_4 h2_5 h2_3 T2
      refine SX.live [3, 4, 5, 6] (fun T4 hT4 => ?_)
      simp only [forall_mem_cons', forall_mem_nil', Φa, Φb, Φc, Φd, ev, Φe, Φf, Φg, Φh, Φi, Φj, Φk, Φl, reduceIte, reduceCtorEq, if_true, if_false, Φm, Φn, Φo, Φp, true_and, and_true, false_and, and_false, true_implies, forall_const, false_implies, ne_eq, not_true_eq_false, not_false_eq_true, decide_true, decide_false, Φq, and_self, true_or, or_true, dite_true, dite_false, Φr, Φs, decide_eq_true_eq, decide_eq_false_iff_not, Φt, Φu, Φv, Φw, beq_self_eq_true, Φx, Φy, Φz, ΦA, ΦB, eq_self, hP, h3_3, h3_4, h3_5, h3_6] at hT4
      obtain ⟨h4_3, h4_4, h4_5, h4_6⟩ := hT4
      clear h3_3 h3_4 h3_5 h3_6 T3
      refine SX.join (fun (ss : (Int)) T L' => (fun (y : Int) => T 3 = T4 3 ∧ T 4 = T4 4 ∧ T 5 = T4 5 ∧ T 6 = T4 6 ∧ L' = some (bw, .cells #[.int .i64 (lv.getD i 0), .int .i64 y] 34 (0, 0)) :: s :: sv :: L ∧ (y = (if i + 1 < lv.length then lv.getD (i + 1) 0 else 0))) (ss)) (fun K12 hK12 => ?_) ?_
      · simp only [h4_3, h4_4, h4_5, h4_6] at hK12
        refine SX.seq_k fun K13 hK13 => ?_
        refine SX.region ?_
        simp (maxSteps := 1000000) only [Φa, Φb, Φc, Φd, ev, Φe, Φf, Φg, Φh, Φi, Φj, Φk, Φl, reduceIte, reduceCtorEq, if_true, if_false, Φm, Φn, Φo, Φp, true_and, and_true, false_and, and_false, true_implies, forall_const, false_implies, ne_eq, not_true_eq_false, not_false_eq_true, decide_true, decide_false, Φq, and_self, true_or, or_true, dite_true, dite_false, Φr, Φs, decide_eq_true_eq, decide_eq_false_iff_not, Φt, Φu, Φv, Φw, beq_self_eq_true, Φx, Φy, Φz, ΦA, ΦB, eq_self, VCplan, ΦC, ΦD, VCops, VQops, guardVC, putVC, VC, VQ, ΦE, ΦF, ΦG, ΦH, ΦI, ΦJ, ΦK, List.getElem?_cons_zero, List.getElem?_cons_succ, List.getElem?_nil, List.getElem?_toArray, ΦL, ΦM, ΦN, ΦO, ΦP, ΦQ, ΦR, ΦS, ΦT, ΦU, ΦV, ΦW, ΦX, ΦY, ΦZ, Ψa, Ψb, Ψc, Ψd, Ψe, Ψf, Ψg, Ψh, Ψi, Ψj, Ψk, Ψl, exists_eq_left, exists_eq_left', exists_const, existsSome, Ψm, Ψn, bin_add, bin_adds, qcall_f, call_f, len_slice, len_str, cap_slice, min_int, max_int, T.elS_35, T.szA_35, T.zr_35, Try.underlying35, bin_lss, hP, h4_3, h4_4, h4_5, h4_6, hw]
        refine hK13 _ _ ?_
        try clear hK13 K13
        refine SX.cond_k fun X14 Y14 hX14 hY14 => ?_
        simp (maxSteps := 1000000) only [Φa, Φb, Φc, Φd, ev, Φe, Φf, Φg, Φh, Φi, Φj, Φk, Φl, reduceIte, reduceCtorEq, if_true, if_false, Φm, Φn, Φo, Φp, true_and, and_true, false_and, and_false, true_implies, forall_const, false_implies, ne_eq, not_true_eq_false, not_false_eq_true, decide_true, decide_false, Φq, and_self, true_or, or_true, dite_true, dite_false, Φr, Φs, decide_eq_true_eq, decide_eq_false_iff_not, Φt, Φu, Φv, Φw, beq_self_eq_true, Φx, Φy, Φz, ΦA, ΦB, eq_self, hP, h4_3, h4_4, h4_5, h4_6, condVC]
        refine ⟨fun hc24 => hX14 ?_, fun hc24 => hY14 ?_⟩
        · clear hX14 hY14 X14 Y14
          obtain ⟨X2, Y2, e2, -, hB⟩ := RowI.sl (Γ := Γ) (L := some (bw, .cells #[.int .i64 (lv.getD i 0), .int .i64 0] 34 (0, 0)) :: s :: sv :: L) (i := 2) hlev rfl
          cases e2
          obtain ⟨a, ha, hcell⟩ := hB (i + 1) _ (getD_at (show i + 1 < lv.length by omega))
          simp only [RInt, Ψl] at hcell
          refine SX.region ?_
          simp (maxSteps := 1000000) only [Φa, Φb, Φc, Φd, ev, Φe, Φf, Φg, Φh, Φi, Φj, Φk, Φl, reduceIte, reduceCtorEq, if_true, if_false, Φm, Φn, Φo, Φp, true_and, and_true, false_and, and_false, true_implies, forall_const, false_implies, ne_eq, not_true_eq_false, not_false_eq_true, decide_true, decide_false, Φq, and_self, true_or, or_true, dite_true, dite_false, Φr, Φs, decide_eq_true_eq, decide_eq_false_iff_not, Φt, Φu, Φv, Φw, beq_self_eq_true, Φx, Φy, Φz, ΦA, ΦB, eq_self, VCplan, ΦC, ΦD, VCops, VQops, guardVC, putVC, VC, VQ, ΦE, ΦF, ΦG, ΦH, ΦI, ΦJ, ΦK, List.getElem?_cons_zero, List.getElem?_cons_succ, List.getElem?_nil, List.getElem?_toArray, ΦL, ΦM, ΦN, ΦO, ΦP, ΦQ, ΦR, ΦS, ΦT, ΦU, ΦV, ΦW, ΦX, ΦY, ΦZ, Ψa, Ψb, Ψc, Ψd, Ψe, Ψf, Ψg, Ψh, Ψi, Ψj, Ψk, Ψl, exists_eq_left, exists_eq_left', exists_const, existsSome, Ψm, Ψn, bin_add, bin_adds, ia_slice, ia_arr, Addr.add_lit, Addr.add_zero', add_addS, Int.toNat_natCast, Int.toNat_zero, Int.toNat_one, Int.reduceToNat, T.elS_35, T.szA_35, T.zr_35, Try.underlying35, ld_ptr, loadVC, loadN, T.szA_3, T.zr_3, Try.underlying3, fa_ptr, T.elA_34, T.lay_34, T.szA_34, T.zr_34, Try.underlying34, st_ptr, storeVC, setN, cells_int, cells_bool, cells_string, cells_pointer, cells_slice, cells_agg, oneB_nil, oneB_cons, one_int, one_bool, one_string, one_pointer, one_slice, one_map, one_func, one_nilFunc, one_nilIface, one_iface, cells_map, cells_func, cells_nilFunc, cells_nilIface, cells_iface, hP, h4_3, h4_4, h4_5, h4_6, hw, Int.toNat_natCast]
          refine ⟨⟨by omega, by omega⟩, a, ha, _, hcell, ?_⟩
          try simp (maxSteps := 1000000) only [Φa, Φb, Φc, Φd, ev, Φe, Φf, Φg, Φh, Φi, Φj, Φk, Φl, reduceIte, reduceCtorEq, if_true, if_false, Φm, Φn, Φo, Φp, true_and, and_true, false_and, and_false, true_implies, forall_const, false_implies, ne_eq, not_true_eq_false, not_false_eq_true, decide_true, decide_false, Φq, and_self, true_or, or_true, dite_true, dite_false, Φr, Φs, decide_eq_true_eq, decide_eq_false_iff_not, Φt, Φu, Φv, Φw, beq_self_eq_true, Φx, Φy, Φz, ΦA, ΦB, eq_self, VCplan, ΦC, ΦD, VCops, VQops, guardVC, putVC, VC, VQ, ΦE, ΦF, ΦG, ΦH, ΦI, ΦJ, ΦK, List.getElem?_cons_zero, List.getElem?_cons_succ, List.getElem?_nil, List.getElem?_toArray, ΦL, ΦM, ΦN, ΦO, ΦP, ΦQ, ΦR, ΦS, ΦT, ΦU, ΦV, ΦW, ΦX, ΦY, ΦZ, Ψa, Ψb, Ψc, Ψd, Ψe, Ψf, Ψg, Ψh, Ψi, Ψj, Ψk, Ψl, exists_eq_left, exists_eq_left', exists_const, existsSome, Ψm, Ψn, bin_add, bin_adds, ia_slice, ia_arr, Addr.add_lit, Addr.add_zero', add_addS, Int.toNat_natCast, Int.toNat_zero, Int.toNat_one, Int.reduceToNat, T.elS_35, T.szA_35, T.zr_35, Try.underlying35, ld_ptr, loadVC, loadN, T.szA_3, T.zr_3, Try.underlying3, fa_ptr, T.elA_34, T.lay_34, T.szA_34, T.zr_34, Try.underlying34, st_ptr, storeVC, setN, cells_int, cells_bool, cells_string, cells_pointer, cells_slice, cells_agg, oneB_nil, oneB_cons, one_int, one_bool, one_string, one_pointer, one_slice, one_map, one_func, one_nilFunc, one_nilIface, one_iface, cells_map, cells_func, cells_nilFunc, cells_nilIface, cells_iface, hP, h4_3, h4_4, h4_5, h4_6, hw, Int.toNat_natCast]
          refine ⟨0, _, _, _, rfl, by first | decide | simp, .inr (by first | decide | simp), ?_⟩
          try simp (maxSteps := 1000000) only [Φa, Φb, Φc, Φd, ev, Φe, Φf, Φg, Φh, Φi, Φj, Φk, Φl, reduceIte, reduceCtorEq, if_true, if_false, Φm, Φn, Φo, Φp, true_and, and_true, false_and, and_false, true_implies, forall_const, false_implies, ne_eq, not_true_eq_false, not_false_eq_true, decide_true, decide_false, Φq, and_self, true_or, or_true, dite_true, dite_false, Φr, Φs, decide_eq_true_eq, decide_eq_false_iff_not, Φt, Φu, Φv, Φw, beq_self_eq_true, Φx, Φy, Φz, ΦA, ΦB, eq_self, VCplan, ΦC, ΦD, VCops, VQops, guardVC, putVC, VC, VQ, ΦE, ΦF, ΦG, ΦH, ΦI, ΦJ, ΦK, List.getElem?_cons_zero, List.getElem?_cons_succ, List.getElem?_nil, List.getElem?_toArray, ΦL, ΦM, ΦN, ΦO, ΦP, ΦQ, ΦR, ΦS, ΦT, ΦU, ΦV, ΦW, ΦX, ΦY, ΦZ, Ψa, Ψb, Ψc, Ψd, Ψe, Ψf, Ψg, Ψh, Ψi, Ψj, Ψk, Ψl, exists_eq_left, exists_eq_left', exists_const, existsSome, Ψm, Ψn, bin_add, bin_adds, ia_slice, ia_arr, Addr.add_lit, Addr.add_zero', add_addS, Int.toNat_natCast, Int.toNat_zero, Int.toNat_one, Int.reduceToNat, T.elS_35, T.szA_35, T.zr_35, Try.underlying35, ld_ptr, loadVC, loadN, T.szA_3, T.zr_3, Try.underlying3, fa_ptr, T.elA_34, T.lay_34, T.szA_34, T.zr_34, Try.underlying34, st_ptr, storeVC, setN, cells_int, cells_bool, cells_string, cells_pointer, cells_slice, cells_agg, oneB_nil, oneB_cons, one_int, one_bool, one_string, one_pointer, one_slice, one_map, one_func, one_nilFunc, one_nilIface, one_iface, cells_map, cells_func, cells_nilFunc, cells_nilIface, cells_iface, hP, h4_3, h4_4, h4_5, h4_6, hw, Int.toNat_natCast]
          refine hK12 (lv.getD (i + 1) 0) _ (some (bw, .cells #[.int .i64 (lv.getD i 0), .int .i64 ((lv.getD (i + 1) 0))] 34 (0, 0)) :: s :: sv :: L) _ (by first | exact Less.refl _ | exact Less.drop _ _ | exact Less.drops (Less.drop _ _) | exact Less.drops (Less.drops (Less.drop _ _)) | exact Less.drops (Less.drops (Less.drops (Less.drop _ _))) | exact Less.drops (Less.drops (Less.drops (Less.drops (Less.drop _ _))))) ?_
          try dsimp only
          refine ⟨?_, ?_, ?_, ?_, ?_, ?_⟩
          · simp (maxSteps := 1000000) only [Φa, Φb, Φc, Φd, ev, Φe, Φf, Φg, Φh, Φi, Φj, Φk, Φl, reduceIte, reduceCtorEq, if_true, if_false, Φm, Φn, Φo, Φp, true_and, and_true, false_and, and_false, true_implies, forall_const, false_implies, ne_eq, not_true_eq_false, not_false_eq_true, decide_true, decide_false, Φq, and_self, true_or, or_true, dite_true, dite_false, Φr, Φs, decide_eq_true_eq, decide_eq_false_iff_not, Φt, Φu, Φv, Φw, beq_self_eq_true, Φx, Φy, Φz, ΦA, ΦB, eq_self, hP, h4_3, h4_4, h4_5, h4_6]
          · simp (maxSteps := 1000000) only [Φa, Φb, Φc, Φd, ev, Φe, Φf, Φg, Φh, Φi, Φj, Φk, Φl, reduceIte, reduceCtorEq, if_true, if_false, Φm, Φn, Φo, Φp, true_and, and_true, false_and, and_false, true_implies, forall_const, false_implies, ne_eq, not_true_eq_false, not_false_eq_true, decide_true, decide_false, Φq, and_self, true_or, or_true, dite_true, dite_false, Φr, Φs, decide_eq_true_eq, decide_eq_false_iff_not, Φt, Φu, Φv, Φw, beq_self_eq_true, Φx, Φy, Φz, ΦA, ΦB, eq_self, hP, h4_3, h4_4, h4_5, h4_6]
          · simp (maxSteps := 1000000) only [Φa, Φb, Φc, Φd, ev, Φe, Φf, Φg, Φh, Φi, Φj, Φk, Φl, reduceIte, reduceCtorEq, if_true, if_false, Φm, Φn, Φo, Φp, true_and, and_true, false_and, and_false, true_implies, forall_const, false_implies, ne_eq, not_true_eq_false, not_false_eq_true, decide_true, decide_false, Φq, and_self, true_or, or_true, dite_true, dite_false, Φr, Φs, decide_eq_true_eq, decide_eq_false_iff_not, Φt, Φu, Φv, Φw, beq_self_eq_true, Φx, Φy, Φz, ΦA, ΦB, eq_self, hP, h4_3, h4_4, h4_5, h4_6]
          · simp (maxSteps := 1000000) only [Φa, Φb, Φc, Φd, ev, Φe, Φf, Φg, Φh, Φi, Φj, Φk, Φl, reduceIte, reduceCtorEq, if_true, if_false, Φm, Φn, Φo, Φp, true_and, and_true, false_and, and_false, true_implies, forall_const, false_implies, ne_eq, not_true_eq_false, not_false_eq_true, decide_true, decide_false, Φq, and_self, true_or, or_true, dite_true, dite_false, Φr, Φs, decide_eq_true_eq, decide_eq_false_iff_not, Φt, Φu, Φv, Φw, beq_self_eq_true, Φx, Φy, Φz, ΦA, ΦB, eq_self, hP, h4_3, h4_4, h4_5, h4_6]
          · rfl
          · rw [if_pos (by omega)]
        · clear hX14 hY14 X14 Y14
          refine SX.skip ?_
          try simp only [Φe, Φf, Φg, Φh, Φi, Φj, Φk, if_true, if_false, reduceIte]
          refine hK12 0 _ (some (bw, .cells #[.int .i64 (lv.getD i 0), .int .i64 0] 34 (0, 0)) :: s :: sv :: L) _ (by first | exact Less.refl _ | exact Less.drop _ _ | exact Less.drops (Less.drop _ _) | exact Less.drops (Less.drops (Less.drop _ _)) | exact Less.drops (Less.drops (Less.drops (Less.drop _ _))) | exact Less.drops (Less.drops (Less.drops (Less.drops (Less.drop _ _))))) ?_
          try dsimp only
          refine ⟨?_, ?_, ?_, ?_, ?_, ?_⟩
          · simp (maxSteps := 1000000) only [Φa, Φb, Φc, Φd, ev, Φe, Φf, Φg, Φh, Φi, Φj, Φk, Φl, reduceIte, reduceCtorEq, if_true, if_false, Φm, Φn, Φo, Φp, true_and, and_true, false_and, and_false, true_implies, forall_const, false_implies, ne_eq, not_true_eq_false, not_false_eq_true, decide_true, decide_false, Φq, and_self, true_or, or_true, dite_true, dite_false, Φr, Φs, decide_eq_true_eq, decide_eq_false_iff_not, Φt, Φu, Φv, Φw, beq_self_eq_true, Φx, Φy, Φz, ΦA, ΦB, eq_self, hP, h4_3, h4_4, h4_5, h4_6]
          · simp (maxSteps := 1000000) only [Φa, Φb, Φc, Φd, ev, Φe, Φf, Φg, Φh, Φi, Φj, Φk, Φl, reduceIte, reduceCtorEq, if_true, if_false, Φm, Φn, Φo, Φp, true_and, and_true, false_and, and_false, true_implies, forall_const, false_implies, ne_eq, not_true_eq_false, not_false_eq_true, decide_true, decide_false, Φq, and_self, true_or, or_true, dite_true, dite_false, Φr, Φs, decide_eq_true_eq, decide_eq_false_iff_not, Φt, Φu, Φv, Φw, beq_self_eq_true, Φx, Φy, Φz, ΦA, ΦB, eq_self, hP, h4_3, h4_4, h4_5, h4_6]
          · simp (maxSteps := 1000000) only [Φa, Φb, Φc, Φd, ev, Φe, Φf, Φg, Φh, Φi, Φj, Φk, Φl, reduceIte, reduceCtorEq, if_true, if_false, Φm, Φn, Φo, Φp, true_and, and_true, false_and, and_false, true_implies, forall_const, false_implies, ne_eq, not_true_eq_false, not_false_eq_true, decide_true, decide_false, Φq, and_self, true_or, or_true, dite_true, dite_false, Φr, Φs, decide_eq_true_eq, decide_eq_false_iff_not, Φt, Φu, Φv, Φw, beq_self_eq_true, Φx, Φy, Φz, ΦA, ΦB, eq_self, hP, h4_3, h4_4, h4_5, h4_6]
          · simp (maxSteps := 1000000) only [Φa, Φb, Φc, Φd, ev, Φe, Φf, Φg, Φh, Φi, Φj, Φk, Φl, reduceIte, reduceCtorEq, if_true, if_false, Φm, Φn, Φo, Φp, true_and, and_true, false_and, and_false, true_implies, forall_const, false_implies, ne_eq, not_true_eq_false, not_false_eq_true, decide_true, decide_false, Φq, and_self, true_or, or_true, dite_true, dite_false, Φr, Φs, decide_eq_true_eq, decide_eq_false_iff_not, Φt, Φu, Φv, Φw, beq_self_eq_true, Φx, Φy, Φz, ΦA, ΦB, eq_self, hP, h4_3, h4_4, h4_5, h4_6]
          · rfl
          · rw [if_neg (by omega)]
      · intro y T5 L5 hI
        try dsimp only at hI 
        simp only [h4_3, h4_4, h4_5, h4_6] at hI 
        obtain ⟨h5_3, h5_4, h5_5, h5_6, hL5, hy⟩ := hI
        replace hL5 := hL5.symm
        subst hL5
        clear h4_3 h4_4 h4_5 h4_6 T4
        subst hy
        refine SX.region ?_
        simp (maxSteps := 1000000) only [Φa, Φb, Φc, Φd, ev, Φe, Φf, Φg, Φh, Φi, Φj, Φk, Φl, reduceIte, reduceCtorEq, if_true, if_false, Φm, Φn, Φo, Φp, true_and, and_true, false_and, and_false, true_implies, forall_const, false_implies, ne_eq, not_true_eq_false, not_false_eq_true, decide_true, decide_false, Φq, and_self, true_or, or_true, dite_true, dite_false, Φr, Φs, decide_eq_true_eq, decide_eq_false_iff_not, Φt, Φu, Φv, Φw, beq_self_eq_true, Φx, Φy, Φz, ΦA, ΦB, eq_self, VCplan, ΦC, ΦD, VCops, VQops, guardVC, putVC, VC, VQ, ΦE, ΦF, ΦG, ΦH, ΦI, ΦJ, ΦK, List.getElem?_cons_zero, List.getElem?_cons_succ, List.getElem?_nil, List.getElem?_toArray, ΦL, ΦM, ΦN, ΦO, ΦP, ΦQ, ΦR, ΦS, ΦT, ΦU, ΦV, ΦW, ΦX, ΦY, ΦZ, Ψa, Ψb, Ψc, Ψd, Ψe, Ψf, Ψg, Ψh, Ψi, Ψj, Ψk, Ψl, exists_eq_left, exists_eq_left', exists_const, existsSome, Ψm, Ψn, ld_ptr, loadVC, loadN, Addr.add_lit, Addr.add_zero', add_addS, Int.toNat_natCast, Int.toNat_zero, Int.toNat_one, Int.reduceToNat, T.elA_34, T.lay_34, T.szA_34, T.zr_34, Try.underlying34, partVC, buildVC, placeL, fillL, setN, inOrd, catV, cells_int, cells_bool, cells_string, cells_pointer, cells_slice, cells_agg, oneB_nil, oneB_cons, one_int, one_bool, one_string, one_pointer, one_slice, one_map, one_func, one_nilFunc, one_nilIface, one_iface, cells_map, cells_func, cells_nilFunc, cells_nilIface, cells_iface, T.elS_30, T.szA_30, T.zr_30, Try.underlying30, qcall_f, call_f, len_slice, len_str, cap_slice, min_int, max_int, hP, h5_3, h5_4, h5_5, h5_6]
        refine ⟨_, Cell.at 0 rfl rfl, _, Cell.at 0 rfl rfl, ?_⟩
        try simp (maxSteps := 1000000) only [Φa, Φb, Φc, Φd, ev, Φe, Φf, Φg, Φh, Φi, Φj, Φk, Φl, reduceIte, reduceCtorEq, if_true, if_false, Φm, Φn, Φo, Φp, true_and, and_true, false_and, and_false, true_implies, forall_const, false_implies, ne_eq, not_true_eq_false, not_false_eq_true, decide_true, decide_false, Φq, and_self, true_or, or_true, dite_true, dite_false, Φr, Φs, decide_eq_true_eq, decide_eq_false_iff_not, Φt, Φu, Φv, Φw, beq_self_eq_true, Φx, Φy, Φz, ΦA, ΦB, eq_self, VCplan, ΦC, ΦD, VCops, VQops, guardVC, putVC, VC, VQ, ΦE, ΦF, ΦG, ΦH, ΦI, ΦJ, ΦK, List.getElem?_cons_zero, List.getElem?_cons_succ, List.getElem?_nil, List.getElem?_toArray, ΦL, ΦM, ΦN, ΦO, ΦP, ΦQ, ΦR, ΦS, ΦT, ΦU, ΦV, ΦW, ΦX, ΦY, ΦZ, Ψa, Ψb, Ψc, Ψd, Ψe, Ψf, Ψg, Ψh, Ψi, Ψj, Ψk, Ψl, exists_eq_left, exists_eq_left', exists_const, existsSome, Ψm, Ψn, ld_ptr, loadVC, loadN, Addr.add_lit, Addr.add_zero', add_addS, Int.toNat_natCast, Int.toNat_zero, Int.toNat_one, Int.reduceToNat, T.elA_34, T.lay_34, T.szA_34, T.zr_34, Try.underlying34, partVC, buildVC, placeL, fillL, setN, inOrd, catV, cells_int, cells_bool, cells_string, cells_pointer, cells_slice, cells_agg, oneB_nil, oneB_cons, one_int, one_bool, one_string, one_pointer, one_slice, one_map, one_func, one_nilFunc, one_nilIface, one_iface, cells_map, cells_func, cells_nilFunc, cells_nilIface, cells_iface, T.elS_30, T.szA_30, T.zr_30, Try.underlying30, qcall_f, call_f, len_slice, len_str, cap_slice, min_int, max_int, hP, h5_3, h5_4, h5_5, h5_6]
        intro bb
        refine YAppend.rowL (z := [.int .i64 0, .int .i64 0]) (f := c2) (x := ((lv.getD i 0), (if i + 1 < lv.length then lv.getD (i + 1) 0 else 0))) (i := 1) (hP ▸ T.elS_30) (hP ▸ T.zr_34) rfl rfl rfl rfl hrow (by omega) (by decide) (fun v2 s2 hrow2 => ?_)
        try simp (maxSteps := 1000000) only [Φa, Φb, Φc, Φd, ev, Φe, Φf, Φg, Φh, Φi, Φj, Φk, Φl, reduceIte, reduceCtorEq, if_true, if_false, Φm, Φn, Φo, Φp, true_and, and_true, false_and, and_false, true_implies, forall_const, false_implies, ne_eq, not_true_eq_false, not_false_eq_true, decide_true, decide_false, Φq, and_self, true_or, or_true, dite_true, dite_false, Φr, Φs, decide_eq_true_eq, decide_eq_false_iff_not, Φt, Φu, Φv, Φw, beq_self_eq_true, Φx, Φy, Φz, ΦA, ΦB, eq_self, VCplan, ΦC, ΦD, VCops, VQops, guardVC, putVC, VC, VQ, ΦE, ΦF, ΦG, ΦH, ΦI, ΦJ, ΦK, List.getElem?_cons_zero, List.getElem?_cons_succ, List.getElem?_nil, List.getElem?_toArray, ΦL, ΦM, ΦN, ΦO, ΦP, ΦQ, ΦR, ΦS, ΦT, ΦU, ΦV, ΦW, ΦX, ΦY, ΦZ, Ψa, Ψb, Ψc, Ψd, Ψe, Ψf, Ψg, Ψh, Ψi, Ψj, Ψk, Ψl, exists_eq_left, exists_eq_left', exists_const, existsSome, Ψm, Ψn, ld_ptr, loadVC, loadN, Addr.add_lit, Addr.add_zero', add_addS, Int.toNat_natCast, Int.toNat_zero, Int.toNat_one, Int.reduceToNat, T.elA_34, T.lay_34, T.szA_34, T.zr_34, Try.underlying34, partVC, buildVC, placeL, fillL, setN, inOrd, catV, cells_int, cells_bool, cells_string, cells_pointer, cells_slice, cells_agg, oneB_nil, oneB_cons, one_int, one_bool, one_string, one_pointer, one_slice, one_map, one_func, one_nilFunc, one_nilIface, one_iface, cells_map, cells_func, cells_nilFunc, cells_nilIface, cells_iface, T.elS_30, T.szA_30, T.zr_30, Try.underlying30, qcall_f, call_f, len_slice, len_str, cap_slice, min_int, max_int, hP, h5_3, h5_4, h5_5, h5_6]
        refine hK10 _ _ ?_
        try clear hK10 K10
        refine SX.region ?_
        simp (maxSteps := 1000000) only [Φa, Φb, Φc, Φd, ev, Φe, Φf, Φg, Φh, Φi, Φj, Φk, Φl, reduceIte, reduceCtorEq, if_true, if_false, Φm, Φn, Φo, Φp, true_and, and_true, false_and, and_false, true_implies, forall_const, false_implies, ne_eq, not_true_eq_false, not_false_eq_true, decide_true, decide_false, Φq, and_self, true_or, or_true, dite_true, dite_false, Φr, Φs, decide_eq_true_eq, decide_eq_false_iff_not, Φt, Φu, Φv, Φw, beq_self_eq_true, Φx, Φy, Φz, ΦA, ΦB, eq_self, VCplan, ΦC, ΦD, VCops, VQops, guardVC, putVC, VC, VQ, ΦE, ΦF, ΦG, ΦH, ΦI, ΦJ, ΦK, List.getElem?_cons_zero, List.getElem?_cons_succ, List.getElem?_nil, List.getElem?_toArray, ΦL, ΦM, ΦN, ΦO, ΦP, ΦQ, ΦR, ΦS, ΦT, ΦU, ΦV, ΦW, ΦX, ΦY, ΦZ, Ψa, Ψb, Ψc, Ψd, Ψe, Ψf, Ψg, Ψh, Ψi, Ψj, Ψk, Ψl, exists_eq_left, exists_eq_left', exists_const, existsSome, Ψm, Ψn, bin_add, bin_adds, hP, h5_3, h5_4, h5_5, h5_6]
        refine hK6 ((i + 2), v2, s2, (out ++ [((lv.getD i 0), (if i + 1 < lv.length then lv.getD (i + 1) 0 else 0))])) _ (s2 :: sv :: L) _ (by first | exact Less.refl _ | exact Less.drop _ _ | exact Less.drops (Less.drop _ _) | exact Less.drops (Less.drops (Less.drop _ _)) | exact Less.drops (Less.drops (Less.drops (Less.drop _ _))) | exact Less.drops (Less.drops (Less.drops (Less.drops (Less.drop _ _))))) ?_ ?_
        · try dsimp only
          refine ⟨?_, ?_, ?_, ?_, ?_⟩
          · simp (maxSteps := 1000000) only [Φa, Φb, Φc, Φd, ev, Φe, Φf, Φg, Φh, Φi, Φj, Φk, Φl, reduceIte, reduceCtorEq, if_true, if_false, Φm, Φn, Φo, Φp, true_and, and_true, false_and, and_false, true_implies, forall_const, false_implies, ne_eq, not_true_eq_false, not_false_eq_true, decide_true, decide_false, Φq, and_self, true_or, or_true, dite_true, dite_false, Φr, Φs, decide_eq_true_eq, decide_eq_false_iff_not, Φt, Φu, Φv, Φw, beq_self_eq_true, Φx, Φy, Φz, ΦA, ΦB, eq_self, hP, h5_3, h5_4, h5_5, h5_6]
            first | done | rfl | skip
          · simp (maxSteps := 1000000) only [Φa, Φb, Φc, Φd, ev, Φe, Φf, Φg, Φh, Φi, Φj, Φk, Φl, reduceIte, reduceCtorEq, if_true, if_false, Φm, Φn, Φo, Φp, true_and, and_true, false_and, and_false, true_implies, forall_const, false_implies, ne_eq, not_true_eq_false, not_false_eq_true, decide_true, decide_false, Φq, and_self, true_or, or_true, dite_true, dite_false, Φr, Φs, decide_eq_true_eq, decide_eq_false_iff_not, Φt, Φu, Φv, Φw, beq_self_eq_true, Φx, Φy, Φz, ΦA, ΦB, eq_self, hP, h5_3, h5_4, h5_5, h5_6]
            rw [show IntKind.i64.wrap ((i : Int) + 2) = ((i + 2 : Nat) : Int) by rw [w64 (by omega)]; rfl]
          · simp (maxSteps := 1000000) only [Φa, Φb, Φc, Φd, ev, Φe, Φf, Φg, Φh, Φi, Φj, Φk, Φl, reduceIte, reduceCtorEq, if_true, if_false, Φm, Φn, Φo, Φp, true_and, and_true, false_and, and_false, true_implies, forall_const, false_implies, ne_eq, not_true_eq_false, not_false_eq_true, decide_true, decide_false, Φq, and_self, true_or, or_true, dite_true, dite_false, Φr, Φs, decide_eq_true_eq, decide_eq_false_iff_not, Φt, Φu, Φv, Φw, beq_self_eq_true, Φx, Φy, Φz, ΦA, ΦB, eq_self, hP, h5_3, h5_4, h5_5, h5_6]
          · rfl
          · refine ⟨⟨by omega, by omega⟩, ?_, hrow2, by rw [List.length_append]; simp; omega⟩
            rw [hb, drop_i (by omega)]
            by_cases h2 : i + 1 < lv.length
            · rw [if_pos h2, drop_i h2, wG]; simp
            · rw [if_neg h2, List.drop_of_length_le (show lv.length ≤ i + 1 by omega), List.drop_of_length_le (show lv.length ≤ i + 2 by omega), wG, wG]; simp
        · (try dsimp only); omega
    · clear hX9 hY9 X9 Y9
      refine SX.exit ?_
      try simp only [Φe, Φf, Φg, Φh, Φi, Φj, Φk, if_true, if_false, reduceIte]
      refine hK4 _ _ ?_
      try clear hK4 K4
      refine SX.seq_k fun K15 hK15 => ?_
      refine SX.region ?_
      simp (maxSteps := 1000000) only [Φa, Φb, Φc, Φd, ev, Φe, Φf, Φg, Φh, Φi, Φj, Φk, Φl, reduceIte, reduceCtorEq, if_true, if_false, Φm, Φn, Φo, Φp, true_and, and_true, false_and, and_false, true_implies, forall_const, false_implies, ne_eq, not_true_eq_false, not_false_eq_true, decide_true, decide_false, Φq, and_self, true_or, or_true, dite_true, dite_false, Φr, Φs, decide_eq_true_eq, decide_eq_false_iff_not, Φt, Φu, Φv, Φw, beq_self_eq_true, Φx, Φy, Φz, ΦA, ΦB, eq_self, VCplan, ΦC, ΦD, VCops, VQops, guardVC, putVC, VC, VQ, ΦE, ΦF, ΦG, ΦH, ΦI, ΦJ, ΦK, List.getElem?_cons_zero, List.getElem?_cons_succ, List.getElem?_nil, List.getElem?_toArray, ΦL, ΦM, ΦN, ΦO, ΦP, ΦQ, ΦR, ΦS, ΦT, ΦU, ΦV, ΦW, ΦX, ΦY, ΦZ, Ψa, Ψb, Ψc, Ψd, Ψe, Ψf, Ψg, Ψh, Ψi, Ψj, Ψk, Ψl, exists_eq_left, exists_eq_left', exists_const, existsSome, Ψm, Ψn, hP, h2_4, h2_5, h2_3]
      refine hK15 _ _ ?_
      try clear hK15 K15
      refine SX.ret ?_
      simp only [Φe, Φf, Φg, Φh, Φi, Φj, Φk, if_true, if_false, reduceIte, retQ_ret]
      try simp only [res0, res1, res2, res3, Φa, Φb, Φc, Φd, ev, Φe, Φf, Φg, Φh, Φi, Φj, Φk, Φl, reduceIte, reduceCtorEq, if_true, if_false, Φm, Φn, Φo, Φp, true_and, and_true, false_and, and_false, true_implies, forall_const, false_implies, ne_eq, not_true_eq_false, not_false_eq_true, decide_true, decide_false, Φq, and_self, true_or, or_true, dite_true, dite_false, Φr, Φs, decide_eq_true_eq, decide_eq_false_iff_not, Φt, Φu, Φv, Φw, beq_self_eq_true, Φx, Φy, Φz, ΦA, ΦB, eq_self, hP, h2_4, h2_5, h2_3]
      refine ⟨_, _, Less.drop1 _ _ _, rfl, s, rfl, ?_⟩
      rw [List.drop_of_length_le (show lv.length ≤ i by omega), wG, List.append_nil] at hb
      rw [← refWave_eq hm, hlv, hb]
      exact hrow
end Go.Proofs.Ytkeefmneldflaaa
