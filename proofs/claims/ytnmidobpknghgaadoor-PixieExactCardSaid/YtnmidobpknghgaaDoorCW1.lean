/- A part of the proof of PixieExactCardSaid. -/
import Derived.Test.YtnmidobpknghgaaDoorCSxNum
import Derived.Test.YtnmidobpknghgaaDoorCSxT
set_option linter.unusedVariables false
set_option linter.unusedSimpArgs false
namespace Go.Proofs.YtnmidobpknghgaaDoor
open Go.RowKit Go.SX
open Go.SX renaming upd_app → Φa, env0_zero → Φb, env0_succ → Φc, env0_nil → Φd, andThen_normal → Φe, andThen_ret → Φf, andThen_exit → Φg, inBlk_normal → Φh, inBlk_ret → Φi, inBlk_exit → Φj, less_refl_t → ΦC, less_drop_t → ΦD
open Nat renaming reduceEqDiff → Φk, reduceBEq → Φl, reduceLT → Ψe, reduceLeDiff → Ψf, reduceAdd → Ψg, reduceMul → Ψh, reduceSub → Ψi, add_zero → Ψj, zero_add → Ψk, mul_one → Ψl, zero_le → Ψm, le_refl → Ψn
open Bool renaming not_true → Φm, not_false → Φn, false_eq_true → Φo, true_eq_false → Φp, not_eq_true' → Φr, not_eq_false' → Φs, not_eq_true → Φu, not_eq_false → Φv, and_true → Φx, true_and → Φy, and_self → Φz, and_false → ΦA, false_and → ΦB
open Int renaming reduceEq → Φq, natCast_inj → Φw, toNat_natCast → Ψo
open Decidable renaming not_not → Φt
open Option renaming map_some → ΦE, map_none → ΦF, bind_some → ΦG, bind_none → ΦH, isSome_some → ΦI, isSome_none → ΦJ
open Option.some renaming injEq → ΦK
open List renaming map_cons → ΦL, map_nil → ΦM, map_toArray → ΦN, toList_toArray → ΦO, append_toArray → ΦP, nil_append → ΦQ, cons_append → ΦR, append_nil → ΦS, flatMap_cons → ΦT, flatMap_nil → ΦU, length_cons → ΦV, length_nil → ΦW, set_cons_zero → ΦX, set_cons_succ → ΦY, drop_zero → ΦZ, drop_succ_cons → Ψa, take_succ_cons → Ψb, take_zero → Ψc, size_toArray → Ψd

/-- Pairs of numbers, one behind the other. -/
def Pairs (Γ : Ctx) (a : Addr) (bs : List (Int × Int)) : Prop := ∀ (L : Hp) (i : Nat) (b : Int × Int), bs[i]? = some b → Cell Γ L (a.add (i * 2)) (.int .i64 b.1) ∧ Cell Γ L (a.add (i * 2 + 1)) (.int .i64 b.2)
def inB (n : Int) (b : Int × Int) : Bool := decide (b.1 ≤ n ∧ n ≤ b.2)
theorem take_any {bs : List (Int × Int)} {n : Int} {i : Nat} {b : Int × Int} (h : bs[i]? = some b) : (bs.take (i + 1)).any (inB n) = ((bs.take i).any (inB n) || inB n b) := by
  rw [List.take_add_one, h, List.any_append]
  simp
set_option maxHeartbeats 1000000 in
set_option maxRecDepth 100000 in
theorem within_spec {Γ : Ctx} (hP : Γ.P = Tryd.prog) {L : Hp} {n : Int} {a : Addr} {bs : List (Int × Int)} (hp : Pairs Γ a bs) (hm : bs.length ≤ 9223372036854775807) :
    SCall Γ 19 #[(.int .i64 n), (.slice (some a) bs.length bs.length)] L (fun v L' => v = .bool (bs.any (inB n)) ∧ L' = L) := by
  refine SCall.enter (n := 24) (res1 4) (hP ▸ Tryd.func19) rfl rfl (by simp) (res1_ok rfl) ?_
  refine SX.seq_k fun K1 hK1 => ?_
  refine SX.region ?_
  simp (maxSteps := 1000000) only [Φa, Φb, Φc, Φd, ev, Φe, Φf, Φg, Φh, Φi, Φj, Φk, Φl, reduceIte, reduceCtorEq, if_true, if_false, Φm, Φn, Φo, Φp, true_and, and_true, false_and, and_false, true_implies, forall_const, false_implies, ne_eq, not_true_eq_false, not_false_eq_true, decide_true, decide_false, Φq, and_self, true_or, or_true, dite_true, dite_false, Φr, Φs, decide_eq_true_eq, decide_eq_false_iff_not, Φt, Φu, Φv, Φw, beq_self_eq_true, Φx, Φy, Φz, ΦA, ΦB, eq_self, VCplan, ΦC, ΦD, VCops, VQops, guardVC, putVC, VC, VQ, ΦE, ΦF, ΦG, ΦH, ΦI, ΦJ, ΦK, List.getElem?_cons_zero, List.getElem?_cons_succ, List.getElem?_nil, List.getElem?_toArray, ΦL, ΦM, ΦN, ΦO, ΦP, ΦQ, ΦR, ΦS, ΦT, ΦU, ΦV, ΦW, ΦX, ΦY, ΦZ, Ψa, Ψb, Ψc, Ψd, Ψe, Ψf, Ψg, Ψh, Ψi, Ψj, Ψk, Ψl, exists_eq_left, exists_eq_left', exists_const, existsSome, Ψm, Ψn, hP]
  refine hK1 _ _ ?_
  try clear hK1 K1
  refine SX.seq_k fun K2 hK2 => ?_
  refine SX.seq_k fun K3 hK3 => ?_
  refine SX.region ?_
  simp (maxSteps := 1000000) only [Φa, Φb, Φc, Φd, ev, Φe, Φf, Φg, Φh, Φi, Φj, Φk, Φl, reduceIte, reduceCtorEq, if_true, if_false, Φm, Φn, Φo, Φp, true_and, and_true, false_and, and_false, true_implies, forall_const, false_implies, ne_eq, not_true_eq_false, not_false_eq_true, decide_true, decide_false, Φq, and_self, true_or, or_true, dite_true, dite_false, Φr, Φs, decide_eq_true_eq, decide_eq_false_iff_not, Φt, Φu, Φv, Φw, beq_self_eq_true, Φx, Φy, Φz, ΦA, ΦB, eq_self, VCplan, ΦC, ΦD, VCops, VQops, guardVC, putVC, VC, VQ, ΦE, ΦF, ΦG, ΦH, ΦI, ΦJ, ΦK, List.getElem?_cons_zero, List.getElem?_cons_succ, List.getElem?_nil, List.getElem?_toArray, ΦL, ΦM, ΦN, ΦO, ΦP, ΦQ, ΦR, ΦS, ΦT, ΦU, ΦV, ΦW, ΦX, ΦY, ΦZ, Ψa, Ψb, Ψc, Ψd, Ψe, Ψf, Ψg, Ψh, Ψi, Ψj, Ψk, Ψl, exists_eq_left, exists_eq_left', exists_const, existsSome, Ψm, Ψn, qcall_f, call_f, len_slice, len_str, cap_slice, min_int, max_int, T.elS_42, T.szA_42, T.zr_42, Tryd.underlying42, hP]
  refine hK3 _ _ ?_
  try clear hK3 K3
  refine SX.block ?_
  refine SX.live [0, 7, 8, 9] (fun T1 hT1 => ?_)
  simp only [forall_mem_cons', forall_mem_nil', Φa, Φb, Φc, Φd, ev, Φe, Φf, Φg, Φh, Φi, Φj, Φk, Φl, reduceIte, reduceCtorEq, if_true, if_false, Φm, Φn, Φo, Φp, true_and, and_true, false_and, and_false, true_implies, forall_const, false_implies, ne_eq, not_true_eq_false, not_false_eq_true, decide_true, decide_false, Φq, and_self, true_or, or_true, dite_true, dite_false, Φr, Φs, decide_eq_true_eq, decide_eq_false_iff_not, Φt, Φu, Φv, Φw, beq_self_eq_true, Φx, Φy, Φz, ΦA, ΦB, eq_self, hP] at hT1
  obtain ⟨h1_0, h1_7, h1_8, h1_9⟩ := hT1
  refine SX.loop_k (fun (ss : (Nat)) T L' => (fun (i : Nat) => T 9 = .int .i64 (i : Int) ∧ T 0 = T1 0 ∧ T 7 = T1 7 ∧ T 8 = T1 8 ∧ L' = L ∧ (i ≤ bs.length ∧ (bs.take i).any (inB n) = false)) (ss)) (fun (ss : (Nat)) => (fun (i : Nat) => bs.length - i) (ss)) 0 ?_ ?_
  · try dsimp only
    refine ⟨?_, ?_, ?_, ?_, ?_, ?_⟩
    · first | exact h1_9 | (rw [h1_9]; rfl) | (rw [h1_9]; simp; done)
    · rfl
    · rfl
    · rfl
    · rfl
    · exact ⟨Nat.zero_le _, rfl⟩
  · intro i T2 L2 hI K4 hK4
    try dsimp only at hI hK4
    simp only [h1_0, h1_7, h1_8] at hI hK4
    obtain ⟨h2_9, h2_0, h2_7, h2_8, hL2, ⟨hi, hno⟩⟩ := hI
    replace hL2 := hL2.symm
    subst hL2
    clear h1_0 h1_7 h1_8 h1_9 T1
    refine SX.seq_k fun K5 hK5 => ?_
    refine SX.region ?_
    simp (maxSteps := 1000000) only [Φa, Φb, Φc, Φd, ev, Φe, Φf, Φg, Φh, Φi, Φj, Φk, Φl, reduceIte, reduceCtorEq, if_true, if_false, Φm, Φn, Φo, Φp, true_and, and_true, false_and, and_false, true_implies, forall_const, false_implies, ne_eq, not_true_eq_false, not_false_eq_true, decide_true, decide_false, Φq, and_self, true_or, or_true, dite_true, dite_false, Φr, Φs, decide_eq_true_eq, decide_eq_false_iff_not, Φt, Φu, Φv, Φw, beq_self_eq_true, Φx, Φy, Φz, ΦA, ΦB, eq_self, VCplan, ΦC, ΦD, VCops, VQops, guardVC, putVC, VC, VQ, ΦE, ΦF, ΦG, ΦH, ΦI, ΦJ, ΦK, List.getElem?_cons_zero, List.getElem?_cons_succ, List.getElem?_nil, List.getElem?_toArray, ΦL, ΦM, ΦN, ΦO, ΦP, ΦQ, ΦR, ΦS, ΦT, ΦU, ΦV, ΦW, ΦX, ΦY, ΦZ, Ψa, Ψb, Ψc, Ψd, Ψe, Ψf, Ψg, Ψh, Ψi, Ψj, Ψk, Ψl, exists_eq_left, exists_eq_left', exists_const, existsSome, Ψm, Ψn, bin_lss, hP, h2_9, h2_0, h2_7, h2_8]
    refine hK5 _ _ ?_
    try clear hK5 K5
    refine SX.seq_k fun K6 hK6 => ?_
    refine SX.cond_k fun X7 Y7 hX7 hY7 => ?_
    simp (maxSteps := 1000000) only [Φa, Φb, Φc, Φd, ev, Φe, Φf, Φg, Φh, Φi, Φj, Φk, Φl, reduceIte, reduceCtorEq, if_true, if_false, Φm, Φn, Φo, Φp, true_and, and_true, false_and, and_false, true_implies, forall_const, false_implies, ne_eq, not_true_eq_false, not_false_eq_true, decide_true, decide_false, Φq, and_self, true_or, or_true, dite_true, dite_false, Φr, Φs, decide_eq_true_eq, decide_eq_false_iff_not, Φt, Φu, Φv, Φw, beq_self_eq_true, Φx, Φy, Φz, ΦA, ΦB, eq_self, hP, h2_9, h2_0, h2_7, h2_8, condVC]
    refine ⟨fun hc10 => hX7 ?_, fun hc10 => hY7 ?_⟩
    · clear hX7 hY7 X7 Y7
      refine SX.skip ?_
      simp only [Φe, Φf, Φg, Φh, Φi, Φj, Φk, if_true, if_false, reduceIte]
      refine hK6 _ _ ?_
      try clear hK6 K6
      refine SX.seq_k fun K8 hK8 => ?_
      refine SX.block ?_
      refine SX.seq_k fun K9 hK9 => ?_
      obtain ⟨b, hb⟩ : ∃ b, bs[i]? = some b := ⟨_, List.getElem?_eq_getElem (by omega)⟩
      obtain ⟨hb1, hb2⟩ := hp L i b hb
      refine SX.region ?_
      simp (maxSteps := 1000000) only [Φa, Φb, Φc, Φd, ev, Φe, Φf, Φg, Φh, Φi, Φj, Φk, Φl, reduceIte, reduceCtorEq, if_true, if_false, Φm, Φn, Φo, Φp, true_and, and_true, false_and, and_false, true_implies, forall_const, false_implies, ne_eq, not_true_eq_false, not_false_eq_true, decide_true, decide_false, Φq, and_self, true_or, or_true, dite_true, dite_false, Φr, Φs, decide_eq_true_eq, decide_eq_false_iff_not, Φt, Φu, Φv, Φw, beq_self_eq_true, Φx, Φy, Φz, ΦA, ΦB, eq_self, VCplan, ΦC, ΦD, VCops, VQops, guardVC, putVC, VC, VQ, ΦE, ΦF, ΦG, ΦH, ΦI, ΦJ, ΦK, List.getElem?_cons_zero, List.getElem?_cons_succ, List.getElem?_nil, List.getElem?_toArray, ΦL, ΦM, ΦN, ΦO, ΦP, ΦQ, ΦR, ΦS, ΦT, ΦU, ΦV, ΦW, ΦX, ΦY, ΦZ, Ψa, Ψb, Ψc, Ψd, Ψe, Ψf, Ψg, Ψh, Ψi, Ψj, Ψk, Ψl, exists_eq_left, exists_eq_left', exists_const, existsSome, Ψm, Ψn, ia_slice, ia_arr, Addr.add_lit, Addr.add_zero', add_addS, Ψo, Int.toNat_zero, Int.toNat_one, Int.reduceToNat, T.elS_42, T.szA_42, T.zr_42, Tryd.underlying42, ld_ptr, loadVC, loadN, T.elA_43, T.lay_43, T.szA_43, T.zr_43, Tryd.underlying43, cells_int, cells_bool, cells_string, cells_pointer, cells_slice, cells_agg, oneB_nil, oneB_cons, one_int, one_bool, one_string, one_pointer, one_slice, one_map, one_func, one_nilFunc, one_nilIface, one_iface, cells_map, cells_func, cells_nilFunc, cells_nilIface, cells_iface, st_ptr, storeVC, setN, hP, h2_9, h2_0, h2_7, h2_8]
      refine ⟨⟨by omega, by omega⟩, _, hb1, _, hb2, ?_⟩
      try simp (maxSteps := 1000000) only [Φa, Φb, Φc, Φd, ev, Φe, Φf, Φg, Φh, Φi, Φj, Φk, Φl, reduceIte, reduceCtorEq, if_true, if_false, Φm, Φn, Φo, Φp, true_and, and_true, false_and, and_false, true_implies, forall_const, false_implies, ne_eq, not_true_eq_false, not_false_eq_true, decide_true, decide_false, Φq, and_self, true_or, or_true, dite_true, dite_false, Φr, Φs, decide_eq_true_eq, decide_eq_false_iff_not, Φt, Φu, Φv, Φw, beq_self_eq_true, Φx, Φy, Φz, ΦA, ΦB, eq_self, VCplan, ΦC, ΦD, VCops, VQops, guardVC, putVC, VC, VQ, ΦE, ΦF, ΦG, ΦH, ΦI, ΦJ, ΦK, List.getElem?_cons_zero, List.getElem?_cons_succ, List.getElem?_nil, List.getElem?_toArray, ΦL, ΦM, ΦN, ΦO, ΦP, ΦQ, ΦR, ΦS, ΦT, ΦU, ΦV, ΦW, ΦX, ΦY, ΦZ, Ψa, Ψb, Ψc, Ψd, Ψe, Ψf, Ψg, Ψh, Ψi, Ψj, Ψk, Ψl, exists_eq_left, exists_eq_left', exists_const, existsSome, Ψm, Ψn, ia_slice, ia_arr, Addr.add_lit, Addr.add_zero', add_addS, Ψo, Int.toNat_zero, Int.toNat_one, Int.reduceToNat, T.elS_42, T.szA_42, T.zr_42, Tryd.underlying42, ld_ptr, loadVC, loadN, T.elA_43, T.lay_43, T.szA_43, T.zr_43, Tryd.underlying43, cells_int, cells_bool, cells_string, cells_pointer, cells_slice, cells_agg, oneB_nil, oneB_cons, one_int, one_bool, one_string, one_pointer, one_slice, one_map, one_func, one_nilFunc, one_nilIface, one_iface, cells_map, cells_func, cells_nilFunc, cells_nilIface, cells_iface, st_ptr, storeVC, setN, hP, h2_9, h2_0, h2_7, h2_8]
      intro bk
      refine ⟨0, _, _, _, rfl, by decide, .inr (by decide), ?_⟩
      try simp (maxSteps := 1000000) only [Φa, Φb, Φc, Φd, ev, Φe, Φf, Φg, Φh, Φi, Φj, Φk, Φl, reduceIte, reduceCtorEq, if_true, if_false, Φm, Φn, Φo, Φp, true_and, and_true, false_and, and_false, true_implies, forall_const, false_implies, ne_eq, not_true_eq_false, not_false_eq_true, decide_true, decide_false, Φq, and_self, true_or, or_true, dite_true, dite_false, Φr, Φs, decide_eq_true_eq, decide_eq_false_iff_not, Φt, Φu, Φv, Φw, beq_self_eq_true, Φx, Φy, Φz, ΦA, ΦB, eq_self, VCplan, ΦC, ΦD, VCops, VQops, guardVC, putVC, VC, VQ, ΦE, ΦF, ΦG, ΦH, ΦI, ΦJ, ΦK, List.getElem?_cons_zero, List.getElem?_cons_succ, List.getElem?_nil, List.getElem?_toArray, ΦL, ΦM, ΦN, ΦO, ΦP, ΦQ, ΦR, ΦS, ΦT, ΦU, ΦV, ΦW, ΦX, ΦY, ΦZ, Ψa, Ψb, Ψc, Ψd, Ψe, Ψf, Ψg, Ψh, Ψi, Ψj, Ψk, Ψl, exists_eq_left, exists_eq_left', exists_const, existsSome, Ψm, Ψn, ia_slice, ia_arr, Addr.add_lit, Addr.add_zero', add_addS, Ψo, Int.toNat_zero, Int.toNat_one, Int.reduceToNat, T.elS_42, T.szA_42, T.zr_42, Tryd.underlying42, ld_ptr, loadVC, loadN, T.elA_43, T.lay_43, T.szA_43, T.zr_43, Tryd.underlying43, cells_int, cells_bool, cells_string, cells_pointer, cells_slice, cells_agg, oneB_nil, oneB_cons, one_int, one_bool, one_string, one_pointer, one_slice, one_map, one_func, one_nilFunc, one_nilIface, one_iface, cells_map, cells_func, cells_nilFunc, cells_nilIface, cells_iface, st_ptr, storeVC, setN, hP, h2_9, h2_0, h2_7, h2_8]
      refine hK9 _ _ ?_
      try clear hK9 K9
      refine SX.seq_k fun K10 hK10 => ?_
      refine SX.region_x ?_
      refine RX.live [0, 6, 7, 8, 9] (fun T3 hT3 => ?_)
      simp only [forall_mem_cons', forall_mem_nil', Φa, Φb, Φc, Φd, ev, Φe, Φf, Φg, Φh, Φi, Φj, Φk, Φl, reduceIte, reduceCtorEq, if_true, if_false, Φm, Φn, Φo, Φp, true_and, and_true, false_and, and_false, true_implies, forall_const, false_implies, ne_eq, not_true_eq_false, not_false_eq_true, decide_true, decide_false, Φq, and_self, true_or, or_true, dite_true, dite_false, Φr, Φs, decide_eq_true_eq, decide_eq_false_iff_not, Φt, Φu, Φv, Φw, beq_self_eq_true, Φx, Φy, Φz, ΦA, ΦB, eq_self, hP, h2_9, h2_0, h2_7, h2_8] at hT3
      obtain ⟨h3_0, h3_6, h3_7, h3_8, h3_9⟩ := hT3
      clear h2_9 h2_0 h2_7 h2_8 T2
      refine RX.join 10 (fun (ss : Unit) T L' => T 22 = .bool (decide (b.1 ≤ n ∧ n ≤ b.2)) ∧ T 0 = T3 0 ∧ T 7 = T3 7 ∧ T 8 = T3 8 ∧ T 9 = T3 9 ∧ L' = some (bk, .cells #[.int .i64 b.1, .int .i64 b.2] 43 (0, 0)) :: L ∧ (True)) (fun K11 hK11 => ?_) ?_
      · simp only [h3_0, h3_7, h3_8, h3_9] at hK11
        simp (maxSteps := 1000000) only [Φa, Φb, Φc, Φd, ev, Φe, Φf, Φg, Φh, Φi, Φj, Φk, Φl, reduceIte, reduceCtorEq, if_true, if_false, Φm, Φn, Φo, Φp, true_and, and_true, false_and, and_false, true_implies, forall_const, false_implies, ne_eq, not_true_eq_false, not_false_eq_true, decide_true, decide_false, Φq, and_self, true_or, or_true, dite_true, dite_false, Φr, Φs, decide_eq_true_eq, decide_eq_false_iff_not, Φt, Φu, Φv, Φw, beq_self_eq_true, Φx, Φy, Φz, ΦA, ΦB, eq_self, VCplan, ΦC, ΦD, VCops, VQops, guardVC, putVC, VC, VQ, ΦE, ΦF, ΦG, ΦH, ΦI, ΦJ, ΦK, List.getElem?_cons_zero, List.getElem?_cons_succ, List.getElem?_nil, List.getElem?_toArray, ΦL, ΦM, ΦN, ΦO, ΦP, ΦQ, ΦR, ΦS, ΦT, ΦU, ΦV, ΦW, ΦX, ΦY, ΦZ, Ψa, Ψb, Ψc, Ψd, Ψe, Ψf, Ψg, Ψh, Ψi, Ψj, Ψk, Ψl, exists_eq_left, exists_eq_left', exists_const, existsSome, Ψm, Ψn, ia_slice, ia_arr, Addr.add_lit, Addr.add_zero', add_addS, Ψo, Int.toNat_zero, Int.toNat_one, Int.reduceToNat, T.elA_43, T.lay_43, T.szA_43, T.zr_43, Tryd.underlying43, ld_ptr, loadVC, loadN, T.szA_3, T.zr_3, Tryd.underlying3, bin_geq, bin_leq, pick_bool, hP, h3_0, h3_6, h3_7, h3_8, h3_9]
        repeat' (first | refine iteB (fun hg => ?_) (fun hg => ?_) | refine iteI (fun hg => ?_) (fun hg => ?_) | ((first | refine ⟨by omega, ?_⟩ | refine ⟨_, Cell.at 0 rfl rfl, ?_⟩ | fail); try simp (maxSteps := 1000000) only [Φa, Φb, Φc, Φd, ev, Φe, Φf, Φg, Φh, Φi, Φj, Φk, Φl, reduceIte, reduceCtorEq, if_true, if_false, Φm, Φn, Φo, Φp, true_and, and_true, false_and, and_false, true_implies, forall_const, false_implies, ne_eq, not_true_eq_false, not_false_eq_true, decide_true, decide_false, Φq, and_self, true_or, or_true, dite_true, dite_false, Φr, Φs, decide_eq_true_eq, decide_eq_false_iff_not, Φt, Φu, Φv, Φw, beq_self_eq_true, Φx, Φy, Φz, ΦA, ΦB, eq_self, VCplan, ΦC, ΦD, VCops, VQops, guardVC, putVC, VC, VQ, ΦE, ΦF, ΦG, ΦH, ΦI, ΦJ, ΦK, List.getElem?_cons_zero, List.getElem?_cons_succ, List.getElem?_nil, List.getElem?_toArray, ΦL, ΦM, ΦN, ΦO, ΦP, ΦQ, ΦR, ΦS, ΦT, ΦU, ΦV, ΦW, ΦX, ΦY, ΦZ, Ψa, Ψb, Ψc, Ψd, Ψe, Ψf, Ψg, Ψh, Ψi, Ψj, Ψk, Ψl, exists_eq_left, exists_eq_left', exists_const, existsSome, Ψm, Ψn, ia_slice, ia_arr, Addr.add_lit, Addr.add_zero', add_addS, Ψo, Int.toNat_zero, Int.toNat_one, Int.reduceToNat, T.elA_43, T.lay_43, T.szA_43, T.zr_43, Tryd.underlying43, ld_ptr, loadVC, loadN, T.szA_3, T.zr_3, Tryd.underlying3, bin_geq, bin_leq, pick_bool, hP, h3_0, h3_6, h3_7, h3_8, h3_9]) | fail)
        all_goals
          refine hK11 () _ (some (bk, .cells #[.int .i64 b.1, .int .i64 b.2] 43 (0, 0)) :: L) _ (by first | exact Less.refl _ | exact Less.drop _ _ | exact Less.drops (Less.drop _ _) | exact Less.drops (Less.drops (Less.drop _ _)) | exact Less.drops (Less.drops (Less.drops (Less.drop _ _))) | exact Less.drops (Less.drops (Less.drops (Less.drops (Less.drop _ _))))) ?_
          try dsimp only
          refine ⟨?_, ?_, ?_, ?_, ?_, ?_, ?_⟩
          · simp (maxSteps := 1000000) only [Φa, Φb, Φc, Φd, ev, Φe, Φf, Φg, Φh, Φi, Φj, Φk, Φl, reduceIte, reduceCtorEq, if_true, if_false, Φm, Φn, Φo, Φp, true_and, and_true, false_and, and_false, true_implies, forall_const, false_implies, ne_eq, not_true_eq_false, not_false_eq_true, decide_true, decide_false, Φq, and_self, true_or, or_true, dite_true, dite_false, Φr, Φs, decide_eq_true_eq, decide_eq_false_iff_not, Φt, Φu, Φv, Φw, beq_self_eq_true, Φx, Φy, Φz, ΦA, ΦB, eq_self, hP, h3_0, h3_6, h3_7, h3_8, h3_9]
            first | done | exact congrArg _ (decide_eq_decide.2 (by omega)) | exact congrArg _ (decide_eq_true (by omega)).symm | exact congrArg _ (decide_eq_false (by omega)).symm
          · simp (maxSteps := 1000000) only [Φa, Φb, Φc, Φd, ev, Φe, Φf, Φg, Φh, Φi, Φj, Φk, Φl, reduceIte, reduceCtorEq, if_true, if_false, Φm, Φn, Φo, Φp, true_and, and_true, false_and, and_false, true_implies, forall_const, false_implies, ne_eq, not_true_eq_false, not_false_eq_true, decide_true, decide_false, Φq, and_self, true_or, or_true, dite_true, dite_false, Φr, Φs, decide_eq_true_eq, decide_eq_false_iff_not, Φt, Φu, Φv, Φw, beq_self_eq_true, Φx, Φy, Φz, ΦA, ΦB, eq_self, hP, h3_0, h3_6, h3_7, h3_8, h3_9]
          · simp (maxSteps := 1000000) only [Φa, Φb, Φc, Φd, ev, Φe, Φf, Φg, Φh, Φi, Φj, Φk, Φl, reduceIte, reduceCtorEq, if_true, if_false, Φm, Φn, Φo, Φp, true_and, and_true, false_and, and_false, true_implies, forall_const, false_implies, ne_eq, not_true_eq_false, not_false_eq_true, decide_true, decide_false, Φq, and_self, true_or, or_true, dite_true, dite_false, Φr, Φs, decide_eq_true_eq, decide_eq_false_iff_not, Φt, Φu, Φv, Φw, beq_self_eq_true, Φx, Φy, Φz, ΦA, ΦB, eq_self, hP, h3_0, h3_6, h3_7, h3_8, h3_9]
          · simp (maxSteps := 1000000) only [Φa, Φb, Φc, Φd, ev, Φe, Φf, Φg, Φh, Φi, Φj, Φk, Φl, reduceIte, reduceCtorEq, if_true, if_false, Φm, Φn, Φo, Φp, true_and, and_true, false_and, and_false, true_implies, forall_const, false_implies, ne_eq, not_true_eq_false, not_false_eq_true, decide_true, decide_false, Φq, and_self, true_or, or_true, dite_true, dite_false, Φr, Φs, decide_eq_true_eq, decide_eq_false_iff_not, Φt, Φu, Φv, Φw, beq_self_eq_true, Φx, Φy, Φz, ΦA, ΦB, eq_self, hP, h3_0, h3_6, h3_7, h3_8, h3_9]
          · simp (maxSteps := 1000000) only [Φa, Φb, Φc, Φd, ev, Φe, Φf, Φg, Φh, Φi, Φj, Φk, Φl, reduceIte, reduceCtorEq, if_true, if_false, Φm, Φn, Φo, Φp, true_and, and_true, false_and, and_false, true_implies, forall_const, false_implies, ne_eq, not_true_eq_false, not_false_eq_true, decide_true, decide_false, Φq, and_self, true_or, or_true, dite_true, dite_false, Φr, Φs, decide_eq_true_eq, decide_eq_false_iff_not, Φt, Φu, Φv, Φw, beq_self_eq_true, Φx, Φy, Φz, ΦA, ΦB, eq_self, hP, h3_0, h3_6, h3_7, h3_8, h3_9]
          · rfl
          · trivial
      · intro ss T4 L4 hI
        simp only [h3_0, h3_7, h3_8, h3_9] at hI 
        obtain ⟨h4_22, h4_0, h4_7, h4_8, h4_9, hL4, hinv⟩ := hI
        replace hL4 := hL4.symm
        subst hL4
        clear h3_0 h3_6 h3_7 h3_8 h3_9 T3
        refine RX.done ?_
        simp (maxSteps := 1000000) only [Φa, Φb, Φc, Φd, ev, Φe, Φf, Φg, Φh, Φi, Φj, Φk, Φl, reduceIte, reduceCtorEq, if_true, if_false, Φm, Φn, Φo, Φp, true_and, and_true, false_and, and_false, true_implies, forall_const, false_implies, ne_eq, not_true_eq_false, not_false_eq_true, decide_true, decide_false, Φq, and_self, true_or, or_true, dite_true, dite_false, Φr, Φs, decide_eq_true_eq, decide_eq_false_iff_not, Φt, Φu, Φv, Φw, beq_self_eq_true, Φx, Φy, Φz, ΦA, ΦB, eq_self, VCplan, ΦC, ΦD, VCops, VQops, guardVC, putVC, VC, VQ, ΦE, ΦF, ΦG, ΦH, ΦI, ΦJ, ΦK, List.getElem?_cons_zero, List.getElem?_cons_succ, List.getElem?_nil, List.getElem?_toArray, ΦL, ΦM, ΦN, ΦO, ΦP, ΦQ, ΦR, ΦS, ΦT, ΦU, ΦV, ΦW, ΦX, ΦY, ΦZ, Ψa, Ψb, Ψc, Ψd, Ψe, Ψf, Ψg, Ψh, Ψi, Ψj, Ψk, Ψl, exists_eq_left, exists_eq_left', exists_const, existsSome, Ψm, Ψn, hP, h4_22, h4_0, h4_7, h4_8, h4_9]
        refine hK10 _ _ ?_
        try clear hK10 K10
        refine SX.cond_k fun X12 Y12 hX12 hY12 => ?_
        simp (maxSteps := 1000000) only [Φa, Φb, Φc, Φd, ev, Φe, Φf, Φg, Φh, Φi, Φj, Φk, Φl, reduceIte, reduceCtorEq, if_true, if_false, Φm, Φn, Φo, Φp, true_and, and_true, false_and, and_false, true_implies, forall_const, false_implies, ne_eq, not_true_eq_false, not_false_eq_true, decide_true, decide_false, Φq, and_self, true_or, or_true, dite_true, dite_false, Φr, Φs, decide_eq_true_eq, decide_eq_false_iff_not, Φt, Φu, Φv, Φw, beq_self_eq_true, Φx, Φy, Φz, ΦA, ΦB, eq_self, hP, h4_22, h4_0, h4_7, h4_8, h4_9, condVC]
        refine ⟨fun hc22 => hX12 ?_, fun hc22 => hY12 ?_⟩
        · clear hX12 hY12 X12 Y12
          refine SX.seq_k fun K13 hK13 => ?_
          refine SX.region ?_
          simp (maxSteps := 1000000) only [Φa, Φb, Φc, Φd, ev, Φe, Φf, Φg, Φh, Φi, Φj, Φk, Φl, reduceIte, reduceCtorEq, if_true, if_false, Φm, Φn, Φo, Φp, true_and, and_true, false_and, and_false, true_implies, forall_const, false_implies, ne_eq, not_true_eq_false, not_false_eq_true, decide_true, decide_false, Φq, and_self, true_or, or_true, dite_true, dite_false, Φr, Φs, decide_eq_true_eq, decide_eq_false_iff_not, Φt, Φu, Φv, Φw, beq_self_eq_true, Φx, Φy, Φz, ΦA, ΦB, eq_self, VCplan, ΦC, ΦD, VCops, VQops, guardVC, putVC, VC, VQ, ΦE, ΦF, ΦG, ΦH, ΦI, ΦJ, ΦK, List.getElem?_cons_zero, List.getElem?_cons_succ, List.getElem?_nil, List.getElem?_toArray, ΦL, ΦM, ΦN, ΦO, ΦP, ΦQ, ΦR, ΦS, ΦT, ΦU, ΦV, ΦW, ΦX, ΦY, ΦZ, Ψa, Ψb, Ψc, Ψd, Ψe, Ψf, Ψg, Ψh, Ψi, Ψj, Ψk, Ψl, exists_eq_left, exists_eq_left', exists_const, existsSome, Ψm, Ψn, hP, h4_22, h4_0, h4_7, h4_8, h4_9]
          refine hK13 _ _ ?_
          try clear hK13 K13
          refine SX.ret ?_
          simp only [Φe, Φf, Φg, Φh, Φi, Φj, Φk, if_true, if_false, reduceIte, retQ_ret]
          try simp only [res0, res1, res2, res3, Φa, Φb, Φc, Φd, ev, Φe, Φf, Φg, Φh, Φi, Φj, Φk, Φl, reduceIte, reduceCtorEq, if_true, if_false, Φm, Φn, Φo, Φp, true_and, and_true, false_and, and_false, true_implies, forall_const, false_implies, ne_eq, not_true_eq_false, not_false_eq_true, decide_true, decide_false, Φq, and_self, true_or, or_true, dite_true, dite_false, Φr, Φs, decide_eq_true_eq, decide_eq_false_iff_not, Φt, Φu, Φv, Φw, beq_self_eq_true, Φx, Φy, Φz, ΦA, ΦB, eq_self, hP, h4_22, h4_0, h4_7, h4_8, h4_9]
          refine ⟨_, L, (by first | exact Less.refl _ | exact Less.drop _ _ | exact Less.drops (Less.drop _ _) | exact Less.drops (Less.drops (Less.drop _ _)) | exact Less.drops (Less.drops (Less.drops (Less.drop _ _))) | exact Less.drops (Less.drops (Less.drops (Less.drops (Less.drop _ _))))), rfl, ?_, rfl⟩
          rw [show bs.any (inB n) = true from List.any_eq_true.2 ⟨b, List.mem_of_getElem? hb, by rw [inB, decide_eq_true hc22]⟩]
        · clear hX12 hY12 X12 Y12
          refine SX.skip ?_
          simp only [Φe, Φf, Φg, Φh, Φi, Φj, Φk, if_true, if_false, reduceIte]
          refine hK8 _ _ ?_
          try clear hK8 K8
          refine SX.region ?_
          simp (maxSteps := 1000000) only [Φa, Φb, Φc, Φd, ev, Φe, Φf, Φg, Φh, Φi, Φj, Φk, Φl, reduceIte, reduceCtorEq, if_true, if_false, Φm, Φn, Φo, Φp, true_and, and_true, false_and, and_false, true_implies, forall_const, false_implies, ne_eq, not_true_eq_false, not_false_eq_true, decide_true, decide_false, Φq, and_self, true_or, or_true, dite_true, dite_false, Φr, Φs, decide_eq_true_eq, decide_eq_false_iff_not, Φt, Φu, Φv, Φw, beq_self_eq_true, Φx, Φy, Φz, ΦA, ΦB, eq_self, VCplan, ΦC, ΦD, VCops, VQops, guardVC, putVC, VC, VQ, ΦE, ΦF, ΦG, ΦH, ΦI, ΦJ, ΦK, List.getElem?_cons_zero, List.getElem?_cons_succ, List.getElem?_nil, List.getElem?_toArray, ΦL, ΦM, ΦN, ΦO, ΦP, ΦQ, ΦR, ΦS, ΦT, ΦU, ΦV, ΦW, ΦX, ΦY, ΦZ, Ψa, Ψb, Ψc, Ψd, Ψe, Ψf, Ψg, Ψh, Ψi, Ψj, Ψk, Ψl, exists_eq_left, exists_eq_left', exists_const, existsSome, Ψm, Ψn, bin_add, bin_adds, hP, h4_22, h4_0, h4_7, h4_8, h4_9]
          refine hK4 (i + 1) _ (L) _ (by first | exact Less.refl _ | exact Less.drop _ _ | exact Less.drops (Less.drop _ _) | exact Less.drops (Less.drops (Less.drop _ _)) | exact Less.drops (Less.drops (Less.drops (Less.drop _ _))) | exact Less.drops (Less.drops (Less.drops (Less.drops (Less.drop _ _))))) ?_ ?_
          · try dsimp only
            refine ⟨?_, ?_, ?_, ?_, ?_, ?_⟩
            · simp (maxSteps := 1000000) only [Φa, Φb, Φc, Φd, ev, Φe, Φf, Φg, Φh, Φi, Φj, Φk, Φl, reduceIte, reduceCtorEq, if_true, if_false, Φm, Φn, Φo, Φp, true_and, and_true, false_and, and_false, true_implies, forall_const, false_implies, ne_eq, not_true_eq_false, not_false_eq_true, decide_true, decide_false, Φq, and_self, true_or, or_true, dite_true, dite_false, Φr, Φs, decide_eq_true_eq, decide_eq_false_iff_not, Φt, Φu, Φv, Φw, beq_self_eq_true, Φx, Φy, Φz, ΦA, ΦB, eq_self, hP, h4_22, h4_0, h4_7, h4_8, h4_9]
              rw [inc64 (by omega)]
            · simp (maxSteps := 1000000) only [Φa, Φb, Φc, Φd, ev, Φe, Φf, Φg, Φh, Φi, Φj, Φk, Φl, reduceIte, reduceCtorEq, if_true, if_false, Φm, Φn, Φo, Φp, true_and, and_true, false_and, and_false, true_implies, forall_const, false_implies, ne_eq, not_true_eq_false, not_false_eq_true, decide_true, decide_false, Φq, and_self, true_or, or_true, dite_true, dite_false, Φr, Φs, decide_eq_true_eq, decide_eq_false_iff_not, Φt, Φu, Φv, Φw, beq_self_eq_true, Φx, Φy, Φz, ΦA, ΦB, eq_self, hP, h4_22, h4_0, h4_7, h4_8, h4_9]
            · simp (maxSteps := 1000000) only [Φa, Φb, Φc, Φd, ev, Φe, Φf, Φg, Φh, Φi, Φj, Φk, Φl, reduceIte, reduceCtorEq, if_true, if_false, Φm, Φn, Φo, Φp, true_and, and_true, false_and, and_false, true_implies, forall_const, false_implies, ne_eq, not_true_eq_false, not_false_eq_true, decide_true, decide_false, Φq, and_self, true_or, or_true, dite_true, dite_false, Φr, Φs, decide_eq_true_eq, decide_eq_false_iff_not, Φt, Φu, Φv, Φw, beq_self_eq_true, Φx, Φy, Φz, ΦA, ΦB, eq_self, hP, h4_22, h4_0, h4_7, h4_8, h4_9]
            · simp (maxSteps := 1000000) only [Φa, Φb, Φc, Φd, ev, Φe, Φf, Φg, Φh, Φi, Φj, Φk, Φl, reduceIte, reduceCtorEq, if_true, if_false, Φm, Φn, Φo, Φp, true_and, and_true, false_and, and_false, true_implies, forall_const, false_implies, ne_eq, not_true_eq_false, not_false_eq_true, decide_true, decide_false, Φq, and_self, true_or, or_true, dite_true, dite_false, Φr, Φs, decide_eq_true_eq, decide_eq_false_iff_not, Φt, Φu, Φv, Φw, beq_self_eq_true, Φx, Φy, Φz, ΦA, ΦB, eq_self, hP, h4_22, h4_0, h4_7, h4_8, h4_9]
            · rfl
            · refine ⟨by omega, ?_⟩
              rw [take_any hb, hno, inB, decide_eq_false hc22]; rfl
          · (try dsimp only); omega
    · clear hX7 hY7 X7 Y7
      refine SX.exit ?_
      simp only [Φe, Φf, Φg, Φh, Φi, Φj, Φk, if_true, if_false, reduceIte]
      refine hK2 _ _ ?_
      try clear hK2 K2
      refine SX.seq_k fun K14 hK14 => ?_
      refine SX.region ?_
      simp (maxSteps := 1000000) only [Φa, Φb, Φc, Φd, ev, Φe, Φf, Φg, Φh, Φi, Φj, Φk, Φl, reduceIte, reduceCtorEq, if_true, if_false, Φm, Φn, Φo, Φp, true_and, and_true, false_and, and_false, true_implies, forall_const, false_implies, ne_eq, not_true_eq_false, not_false_eq_true, decide_true, decide_false, Φq, and_self, true_or, or_true, dite_true, dite_false, Φr, Φs, decide_eq_true_eq, decide_eq_false_iff_not, Φt, Φu, Φv, Φw, beq_self_eq_true, Φx, Φy, Φz, ΦA, ΦB, eq_self, VCplan, ΦC, ΦD, VCops, VQops, guardVC, putVC, VC, VQ, ΦE, ΦF, ΦG, ΦH, ΦI, ΦJ, ΦK, List.getElem?_cons_zero, List.getElem?_cons_succ, List.getElem?_nil, List.getElem?_toArray, ΦL, ΦM, ΦN, ΦO, ΦP, ΦQ, ΦR, ΦS, ΦT, ΦU, ΦV, ΦW, ΦX, ΦY, ΦZ, Ψa, Ψb, Ψc, Ψd, Ψe, Ψf, Ψg, Ψh, Ψi, Ψj, Ψk, Ψl, exists_eq_left, exists_eq_left', exists_const, existsSome, Ψm, Ψn, hP, h2_9, h2_0, h2_7, h2_8]
      refine hK14 _ _ ?_
      try clear hK14 K14
      refine SX.ret ?_
      simp only [Φe, Φf, Φg, Φh, Φi, Φj, Φk, if_true, if_false, reduceIte, retQ_ret]
      try simp only [res0, res1, res2, res3, Φa, Φb, Φc, Φd, ev, Φe, Φf, Φg, Φh, Φi, Φj, Φk, Φl, reduceIte, reduceCtorEq, if_true, if_false, Φm, Φn, Φo, Φp, true_and, and_true, false_and, and_false, true_implies, forall_const, false_implies, ne_eq, not_true_eq_false, not_false_eq_true, decide_true, decide_false, Φq, and_self, true_or, or_true, dite_true, dite_false, Φr, Φs, decide_eq_true_eq, decide_eq_false_iff_not, Φt, Φu, Φv, Φw, beq_self_eq_true, Φx, Φy, Φz, ΦA, ΦB, eq_self, hP, h2_9, h2_0, h2_7, h2_8]
      refine ⟨_, L, (by first | exact Less.refl _ | exact Less.drop _ _ | exact Less.drops (Less.drop _ _) | exact Less.drops (Less.drops (Less.drop _ _)) | exact Less.drops (Less.drops (Less.drops (Less.drop _ _))) | exact Less.drops (Less.drops (Less.drops (Less.drops (Less.drop _ _))))), rfl, ?_, rfl⟩
      rw [List.take_of_length_le (by omega)] at hno
      rw [hno]

def shownP : List (Int × Int) := [(80, 207)]
def flagsP : List (Int × Int) := [(76, 79), (204, 207)]
def asksP : List (Int × Int) := [(78, 79)]
abbrev SH (Γ : Ctx) : Prop := Pairs Γ ⟨0, 0, none⟩ [(80, 207)]
abbrev FL (Γ : Ctx) : Prop := Pairs Γ ⟨1, 0, none⟩ [(76, 79), (204, 207)]
abbrev AS (Γ : Ctx) : Prop := Pairs Γ ⟨2, 0, none⟩ [(78, 79)]
theorem any1 (n a b : Int) : [(a, b)].any (inB n) = decide (a ≤ n ∧ n ≤ b) := by simp [inB]
theorem any2 (n a b c d : Int) : [(a, b), (c, d)].any (inB n) = (decide (a ≤ n ∧ n ≤ b) || decide (c ≤ n ∧ n ≤ d)) := by simp [inB]
/-- May a raster be so? -/
def okB (l c g : Int) : Bool := decide (0 ≤ l ∧ l < 262 ∧ 0 ≤ c ∧ c < 14 ∧ 0 ≤ g ∧ g ≤ 8 ∧ (g = 0 ∨ 80 ≤ l ∧ l ≤ 207 ∧ g ≤ c - 2))
def chk (l c g : Int) : Int := if okB l c g = true then 0 else 50
def wB (l c : Int) (o : Bool) (g : Int) : Bool := okB l c g && o && decide (80 ≤ l ∧ l ≤ 207) && decide (2 ≤ c) && decide (g < 8)
def iB (l c : Int) (o : Bool) (g : Int) : Bool := okB l c g && o && decide (78 ≤ l ∧ l ≤ 79)
def fB (l c g : Int) : Bool := okB l c g && (decide (76 ≤ l ∧ l ≤ 79) || decide (204 ≤ l ∧ l ≤ 207))
def tB (l c : Int) (o : Bool) (g code : Int) (rd : Bool) : Bool := wB l c o g && decide (code = 2) && rd
def qB (l c : Int) (o : Bool) (g code : Int) (rd : Bool) : Bool := wB l c o g && !(tB l c o g code rd && decide (g = 7))
def onB (o : Bool) (port : Int) (rd wr : Bool) (m : Int) : Bool := if m = 2 ∨ m = 3 then false else if (decide (port = 1) && (rd || wr)) = true then wr else o
abbrev Ras := Int × Int × Bool × Int
abbrev rv (x : Ras) : Value := .agg #[.int .i64 x.1, .int .i64 x.2.1, .bool x.2.2.1, .int .i64 x.2.2.2]
def step (l c : Int) (o : Bool) (g code port : Int) (rd wr : Bool) (m : Int) : Ras :=
  if okB l c g = true ∧ m ≤ 3 then
    if c + 1 = 14 then (if l + 1 = 262 then 0 else l + 1, 0, onB o port rd wr m, 0)
    else (l, c + 1, onB o port rd wr m, if tB l c o g code rd = true then g + 1 else g)
  else (0, 0, false, 0)
theorem chk_eq (l c g : Int) : decide (chk l c g = 0) = okB l c g := by unfold chk; cases okB l c g <;> rfl
theorem chk_zero (l c g : Int) : (chk l c g = 0) = (okB l c g = true) := by unfold chk; cases okB l c g <;> simp
theorem chk_ne (l c g : Int) : decide (¬ chk l c g = 0) = !okB l c g := by unfold chk; cases okB l c g <;> rfl
set_option maxHeartbeats 1000000 in
set_option maxRecDepth 100000 in
theorem Check_spec {Γ : Ctx} (hP : Γ.P = Tryd.prog) {L : Hp} {l c g : Int} {o : Bool} (S : SH Γ) :
    SCall Γ 9 #[(.agg #[.int .i64 l, .int .i64 c, .bool o, .int .i64 g])] L (fun v L' => v = .int .i64 (chk l c g) ∧ L' = L) := by
  refine SCall.enter (n := 42) (res1 2) (hP ▸ Tryd.func9) rfl rfl (by simp) (res1_ok rfl) ?_
  refine SX.seq_k fun K1 hK1 => ?_
  refine SX.region ?_
  simp (maxSteps := 1000000) only [Φa, Φb, Φc, Φd, ev, Φe, Φf, Φg, Φh, Φi, Φj, Φk, Φl, reduceIte, reduceCtorEq, if_true, if_false, Φm, Φn, Φo, Φp, true_and, and_true, false_and, and_false, true_implies, forall_const, false_implies, ne_eq, not_true_eq_false, not_false_eq_true, decide_true, decide_false, Φq, and_self, true_or, or_true, dite_true, dite_false, Φr, Φs, decide_eq_true_eq, decide_eq_false_iff_not, Φt, Φu, Φv, Φw, beq_self_eq_true, Φx, Φy, Φz, ΦA, ΦB, eq_self, VCplan, ΦC, ΦD, VCops, VQops, guardVC, putVC, VC, VQ, ΦE, ΦF, ΦG, ΦH, ΦI, ΦJ, ΦK, List.getElem?_cons_zero, List.getElem?_cons_succ, List.getElem?_nil, List.getElem?_toArray, ΦL, ΦM, ΦN, ΦO, ΦP, ΦQ, ΦR, ΦS, ΦT, ΦU, ΦV, ΦW, ΦX, ΦY, ΦZ, Ψa, Ψb, Ψc, Ψd, Ψe, Ψf, Ψg, Ψh, Ψi, Ψj, Ψk, Ψl, exists_eq_left, exists_eq_left', exists_const, existsSome, Ψm, Ψn, cells_int, cells_bool, cells_string, cells_pointer, cells_slice, cells_agg, oneB_nil, oneB_cons, one_int, one_bool, one_string, one_pointer, one_slice, one_map, one_func, one_nilFunc, one_nilIface, one_iface, cells_map, cells_func, cells_nilFunc, cells_nilIface, cells_iface, T.elA_23, T.lay_23, T.szA_23, T.zr_23, Tryd.underlying23, hP]
  intro bx
  refine hK1 _ _ ?_
  try clear hK1 K1
  refine SX.seq_k fun K2 hK2 => ?_
  refine SX.region ?_
  simp (maxSteps := 1000000) only [Φa, Φb, Φc, Φd, ev, Φe, Φf, Φg, Φh, Φi, Φj, Φk, Φl, reduceIte, reduceCtorEq, if_true, if_false, Φm, Φn, Φo, Φp, true_and, and_true, false_and, and_false, true_implies, forall_const, false_implies, ne_eq, not_true_eq_false, not_false_eq_true, decide_true, decide_false, Φq, and_self, true_or, or_true, dite_true, dite_false, Φr, Φs, decide_eq_true_eq, decide_eq_false_iff_not, Φt, Φu, Φv, Φw, beq_self_eq_true, Φx, Φy, Φz, ΦA, ΦB, eq_self, VCplan, ΦC, ΦD, VCops, VQops, guardVC, putVC, VC, VQ, ΦE, ΦF, ΦG, ΦH, ΦI, ΦJ, ΦK, List.getElem?_cons_zero, List.getElem?_cons_succ, List.getElem?_nil, List.getElem?_toArray, ΦL, ΦM, ΦN, ΦO, ΦP, ΦQ, ΦR, ΦS, ΦT, ΦU, ΦV, ΦW, ΦX, ΦY, ΦZ, Ψa, Ψb, Ψc, Ψd, Ψe, Ψf, Ψg, Ψh, Ψi, Ψj, Ψk, Ψl, exists_eq_left, exists_eq_left', exists_const, existsSome, Ψm, Ψn, hP]
  refine hK2 _ _ ?_
  try clear hK2 K2
  refine SX.live [1, 3] (fun T1 hT1 => ?_)
  simp only [forall_mem_cons', forall_mem_nil', Φa, Φb, Φc, Φd, ev, Φe, Φf, Φg, Φh, Φi, Φj, Φk, Φl, reduceIte, reduceCtorEq, if_true, if_false, Φm, Φn, Φo, Φp, true_and, and_true, false_and, and_false, true_implies, forall_const, false_implies, ne_eq, not_true_eq_false, not_false_eq_true, decide_true, decide_false, Φq, and_self, true_or, or_true, dite_true, dite_false, Φr, Φs, decide_eq_true_eq, decide_eq_false_iff_not, Φt, Φu, Φv, Φw, beq_self_eq_true, Φx, Φy, Φz, ΦA, ΦB, eq_self, hP] at hT1
  obtain ⟨h1_1, h1_3⟩ := hT1
  refine SX.join (fun (ss : (Int)) T L' => (fun (k : Int) => T 3 = .int .i64 k ∧ T 1 = T1 1 ∧ L' = some (bx, .cells #[.int .i64 l, .int .i64 c, .bool o, .int .i64 g] 23 (0, 0)) :: L ∧ ((80 ≤ l ∧ l ≤ 207 → k = (if 8 < (if 0 > IntKind.i64.wrap (c - 2) then 0 else IntKind.i64.wrap (c - 2)) then 8 else (if 0 > IntKind.i64.wrap (c - 2) then 0 else IntKind.i64.wrap (c - 2)))) ∧ (¬ (80 ≤ l ∧ l ≤ 207) → k = 0))) (ss)) (fun K3 hK3 => ?_) ?_
  · simp only [h1_1] at hK3
    refine SX.seq_k fun K4 hK4 => ?_
    refine SX.quiet_x (hP ▸ T.mixed) (by kernel_rfl) ?_
    refine QX.live [1, 3] (fun T2 hT2 => ?_)
    simp only [forall_mem_cons', forall_mem_nil', Φa, Φb, Φc, Φd, ev, Φe, Φf, Φg, Φh, Φi, Φj, Φk, Φl, reduceIte, reduceCtorEq, if_true, if_false, Φm, Φn, Φo, Φp, true_and, and_true, false_and, and_false, true_implies, forall_const, false_implies, ne_eq, not_true_eq_false, not_false_eq_true, decide_true, decide_false, Φq, and_self, true_or, or_true, dite_true, dite_false, Φr, Φs, decide_eq_true_eq, decide_eq_false_iff_not, Φt, Φu, Φv, Φw, beq_self_eq_true, Φx, Φy, Φz, ΦA, ΦB, eq_self, hP, h1_1, h1_3] at hT2
    obtain ⟨h2_1, h2_3⟩ := hT2
    clear h1_1 h1_3 T1
    refine QX.join 4 (fun (ss : Unit) T L' => T 7 = .bool (decide (80 ≤ l ∧ l ≤ 207)) ∧ T 1 = T2 1 ∧ T 3 = T2 3 ∧ L' = some (bx, .cells #[.int .i64 l, .int .i64 c, .bool o, .int .i64 g] 23 (0, 0)) :: L ∧ (True)) (fun K5 hK5 => ?_) ?_
    · simp only [h2_1, h2_3] at hK5
      simp (maxSteps := 1000000) only [Φa, Φb, Φc, Φd, ev, Φe, Φf, Φg, Φh, Φi, Φj, Φk, Φl, reduceIte, reduceCtorEq, if_true, if_false, Φm, Φn, Φo, Φp, true_and, and_true, false_and, and_false, true_implies, forall_const, false_implies, ne_eq, not_true_eq_false, not_false_eq_true, decide_true, decide_false, Φq, and_self, true_or, or_true, dite_true, dite_false, Φr, Φs, decide_eq_true_eq, decide_eq_false_iff_not, Φt, Φu, Φv, Φw, beq_self_eq_true, Φx, Φy, Φz, ΦA, ΦB, eq_self, VCplan, ΦC, ΦD, VCops, VQops, guardVC, putVC, VC, VQ, ΦE, ΦF, ΦG, ΦH, ΦI, ΦJ, ΦK, List.getElem?_cons_zero, List.getElem?_cons_succ, List.getElem?_nil, List.getElem?_toArray, ΦL, ΦM, ΦN, ΦO, ΦP, ΦQ, ΦR, ΦS, ΦT, ΦU, ΦV, ΦW, ΦX, ΦY, ΦZ, Ψa, Ψb, Ψc, Ψd, Ψe, Ψf, Ψg, Ψh, Ψi, Ψj, Ψk, Ψl, exists_eq_left, exists_eq_left', exists_const, existsSome, Ψm, Ψn, fa_ptr, Addr.add_lit, Addr.add_zero', add_addS, Ψo, Int.toNat_zero, Int.toNat_one, Int.reduceToNat, T.elA_23, T.lay_23, T.szA_23, T.zr_23, Tryd.underlying23, ld_ptr, loadVC, loadN, T.szA_3, T.zr_3, Tryd.underlying3, sliceVC, optI, T.elA_44, T.lay_44, T.szA_44, T.zr_44, Tryd.underlying44, qcall_f, call_f, len_slice, len_str, cap_slice, min_int, max_int, T.elS_42, T.szA_42, T.zr_42, Tryd.underlying42, T.callable_19, hP, h2_1, h2_3, any1]
      repeat' (first | refine iteB (fun hg => ?_) (fun hg => ?_) | refine iteI (fun hg => ?_) (fun hg => ?_) | ((first | refine ⟨_, within_spec (bs := [(80, 207)]) (a := ⟨0, 0, none⟩) hP S (by decide), ?_⟩ | refine ⟨by omega, ?_⟩ | refine ⟨_, Cell.at 0 rfl rfl, ?_⟩ | fail); try simp (maxSteps := 1000000) only [Φa, Φb, Φc, Φd, ev, Φe, Φf, Φg, Φh, Φi, Φj, Φk, Φl, reduceIte, reduceCtorEq, if_true, if_false, Φm, Φn, Φo, Φp, true_and, and_true, false_and, and_false, true_implies, forall_const, false_implies, ne_eq, not_true_eq_false, not_false_eq_true, decide_true, decide_false, Φq, and_self, true_or, or_true, dite_true, dite_false, Φr, Φs, decide_eq_true_eq, decide_eq_false_iff_not, Φt, Φu, Φv, Φw, beq_self_eq_true, Φx, Φy, Φz, ΦA, ΦB, eq_self, VCplan, ΦC, ΦD, VCops, VQops, guardVC, putVC, VC, VQ, ΦE, ΦF, ΦG, ΦH, ΦI, ΦJ, ΦK, List.getElem?_cons_zero, List.getElem?_cons_succ, List.getElem?_nil, List.getElem?_toArray, ΦL, ΦM, ΦN, ΦO, ΦP, ΦQ, ΦR, ΦS, ΦT, ΦU, ΦV, ΦW, ΦX, ΦY, ΦZ, Ψa, Ψb, Ψc, Ψd, Ψe, Ψf, Ψg, Ψh, Ψi, Ψj, Ψk, Ψl, exists_eq_left, exists_eq_left', exists_const, existsSome, Ψm, Ψn, fa_ptr, Addr.add_lit, Addr.add_zero', add_addS, Ψo, Int.toNat_zero, Int.toNat_one, Int.reduceToNat, T.elA_23, T.lay_23, T.szA_23, T.zr_23, Tryd.underlying23, ld_ptr, loadVC, loadN, T.szA_3, T.zr_3, Tryd.underlying3, sliceVC, optI, T.elA_44, T.lay_44, T.szA_44, T.zr_44, Tryd.underlying44, qcall_f, call_f, len_slice, len_str, cap_slice, min_int, max_int, T.elS_42, T.szA_42, T.zr_42, Tryd.underlying42, T.callable_19, hP, h2_1, h2_3, any1]) | fail)
      all_goals
        refine hK5 () _ (some (bx, .cells #[.int .i64 l, .int .i64 c, .bool o, .int .i64 g] 23 (0, 0)) :: L) _ (by rfl) ?_
        try dsimp only
        refine ⟨?_, ?_, ?_, ?_, ?_⟩
        · simp (maxSteps := 1000000) only [Φa, Φb, Φc, Φd, ev, Φe, Φf, Φg, Φh, Φi, Φj, Φk, Φl, reduceIte, reduceCtorEq, if_true, if_false, Φm, Φn, Φo, Φp, true_and, and_true, false_and, and_false, true_implies, forall_const, false_implies, ne_eq, not_true_eq_false, not_false_eq_true, decide_true, decide_false, Φq, and_self, true_or, or_true, dite_true, dite_false, Φr, Φs, decide_eq_true_eq, decide_eq_false_iff_not, Φt, Φu, Φv, Φw, beq_self_eq_true, Φx, Φy, Φz, ΦA, ΦB, eq_self, hP, h2_1, h2_3]
          first | done | exact congrArg _ (decide_eq_decide.2 (by omega)) | exact congrArg _ (decide_eq_true (by omega)).symm | exact congrArg _ (decide_eq_false (by omega)).symm
        · simp (maxSteps := 1000000) only [Φa, Φb, Φc, Φd, ev, Φe, Φf, Φg, Φh, Φi, Φj, Φk, Φl, reduceIte, reduceCtorEq, if_true, if_false, Φm, Φn, Φo, Φp, true_and, and_true, false_and, and_false, true_implies, forall_const, false_implies, ne_eq, not_true_eq_false, not_false_eq_true, decide_true, decide_false, Φq, and_self, true_or, or_true, dite_true, dite_false, Φr, Φs, decide_eq_true_eq, decide_eq_false_iff_not, Φt, Φu, Φv, Φw, beq_self_eq_true, Φx, Φy, Φz, ΦA, ΦB, eq_self, hP, h2_1, h2_3]
        · simp (maxSteps := 1000000) only [Φa, Φb, Φc, Φd, ev, Φe, Φf, Φg, Φh, Φi, Φj, Φk, Φl, reduceIte, reduceCtorEq, if_true, if_false, Φm, Φn, Φo, Φp, true_and, and_true, false_and, and_false, true_implies, forall_const, false_implies, ne_eq, not_true_eq_false, not_false_eq_true, decide_true, decide_false, Φq, and_self, true_or, or_true, dite_true, dite_false, Φr, Φs, decide_eq_true_eq, decide_eq_false_iff_not, Φt, Φu, Φv, Φw, beq_self_eq_true, Φx, Φy, Φz, ΦA, ΦB, eq_self, hP, h2_1, h2_3]
        · rfl
        · trivial
    · intro ss T3 L3 hE3 hI
      simp only [h2_1, h2_3] at hI 
      obtain ⟨h3_7, h3_1, h3_3, hL3, hinv⟩ := hI
      replace hL3 := hL3.symm
      subst hL3
      clear h2_1 h2_3 T2
      clear hE3
      refine QX.done ?_
      simp (maxSteps := 1000000) only [Φa, Φb, Φc, Φd, ev, Φe, Φf, Φg, Φh, Φi, Φj, Φk, Φl, reduceIte, reduceCtorEq, if_true, if_false, Φm, Φn, Φo, Φp, true_and, and_true, false_and, and_false, true_implies, forall_const, false_implies, ne_eq, not_true_eq_false, not_false_eq_true, decide_true, decide_false, Φq, and_self, true_or, or_true, dite_true, dite_false, Φr, Φs, decide_eq_true_eq, decide_eq_false_iff_not, Φt, Φu, Φv, Φw, beq_self_eq_true, Φx, Φy, Φz, ΦA, ΦB, eq_self, VCplan, ΦC, ΦD, VCops, VQops, guardVC, putVC, VC, VQ, ΦE, ΦF, ΦG, ΦH, ΦI, ΦJ, ΦK, List.getElem?_cons_zero, List.getElem?_cons_succ, List.getElem?_nil, List.getElem?_toArray, ΦL, ΦM, ΦN, ΦO, ΦP, ΦQ, ΦR, ΦS, ΦT, ΦU, ΦV, ΦW, ΦX, ΦY, ΦZ, Ψa, Ψb, Ψc, Ψd, Ψe, Ψf, Ψg, Ψh, Ψi, Ψj, Ψk, Ψl, exists_eq_left, exists_eq_left', exists_const, existsSome, Ψm, Ψn, hP, h3_7, h3_1, h3_3]
      refine hK4 _ _ ?_
      try clear hK4 K4
      refine SX.cond_k fun X6 Y6 hX6 hY6 => ?_
      simp (maxSteps := 1000000) only [Φa, Φb, Φc, Φd, ev, Φe, Φf, Φg, Φh, Φi, Φj, Φk, Φl, reduceIte, reduceCtorEq, if_true, if_false, Φm, Φn, Φo, Φp, true_and, and_true, false_and, and_false, true_implies, forall_const, false_implies, ne_eq, not_true_eq_false, not_false_eq_true, decide_true, decide_false, Φq, and_self, true_or, or_true, dite_true, dite_false, Φr, Φs, decide_eq_true_eq, decide_eq_false_iff_not, Φt, Φu, Φv, Φw, beq_self_eq_true, Φx, Φy, Φz, ΦA, ΦB, eq_self, hP, h3_7, h3_1, h3_3, condVC]
      refine ⟨fun hc7 => hX6 ?_, fun hc7 => hY6 ?_⟩
      · clear hX6 hY6 X6 Y6
        refine SX.region_x ?_
        refine RX.live [1] (fun T4 hT4 => ?_)
        simp only [forall_mem_cons', forall_mem_nil', Φa, Φb, Φc, Φd, ev, Φe, Φf, Φg, Φh, Φi, Φj, Φk, Φl, reduceIte, reduceCtorEq, if_true, if_false, Φm, Φn, Φo, Φp, true_and, and_true, false_and, and_false, true_implies, forall_const, false_implies, ne_eq, not_true_eq_false, not_false_eq_true, decide_true, decide_false, Φq, and_self, true_or, or_true, dite_true, dite_false, Φr, Φs, decide_eq_true_eq, decide_eq_false_iff_not, Φt, Φu, Φv, Φw, beq_self_eq_true, Φx, Φy, Φz, ΦA, ΦB, eq_self, hP, h3_7, h3_1, h3_3] at hT4
        have h4_1 := hT4; clear hT4
        clear h3_7 h3_1 h3_3 T3
        refine RX.join 6 (fun (ss : Unit) T L' => T 3 = .int .i64 (if 8 < (if 0 > IntKind.i64.wrap (c - 2) then 0 else IntKind.i64.wrap (c - 2)) then 8 else (if 0 > IntKind.i64.wrap (c - 2) then 0 else IntKind.i64.wrap (c - 2))) ∧ T 1 = T4 1 ∧ L' = some (bx, .cells #[.int .i64 l, .int .i64 c, .bool o, .int .i64 g] 23 (0, 0)) :: L ∧ (True)) (fun K7 hK7 => ?_) ?_
        · simp only [h4_1] at hK7
          simp (maxSteps := 1000000) only [Φa, Φb, Φc, Φd, ev, Φe, Φf, Φg, Φh, Φi, Φj, Φk, Φl, reduceIte, reduceCtorEq, if_true, if_false, Φm, Φn, Φo, Φp, true_and, and_true, false_and, and_false, true_implies, forall_const, false_implies, ne_eq, not_true_eq_false, not_false_eq_true, decide_true, decide_false, Φq, and_self, true_or, or_true, dite_true, dite_false, Φr, Φs, decide_eq_true_eq, decide_eq_false_iff_not, Φt, Φu, Φv, Φw, beq_self_eq_true, Φx, Φy, Φz, ΦA, ΦB, eq_self, VCplan, ΦC, ΦD, VCops, VQops, guardVC, putVC, VC, VQ, ΦE, ΦF, ΦG, ΦH, ΦI, ΦJ, ΦK, List.getElem?_cons_zero, List.getElem?_cons_succ, List.getElem?_nil, List.getElem?_toArray, ΦL, ΦM, ΦN, ΦO, ΦP, ΦQ, ΦR, ΦS, ΦT, ΦU, ΦV, ΦW, ΦX, ΦY, ΦZ, Ψa, Ψb, Ψc, Ψd, Ψe, Ψf, Ψg, Ψh, Ψi, Ψj, Ψk, Ψl, exists_eq_left, exists_eq_left', exists_const, existsSome, Ψm, Ψn, fa_ptr, Addr.add_lit, Addr.add_zero', add_addS, Ψo, Int.toNat_zero, Int.toNat_one, Int.reduceToNat, T.elA_23, T.lay_23, T.szA_23, T.zr_23, Tryd.underlying23, ld_ptr, loadVC, loadN, T.szA_3, T.zr_3, Tryd.underlying3, bin_sub, qcall_f, call_f, len_slice, len_str, cap_slice, min_int, max_int, hP, h4_1]
          repeat' (first | refine iteB (fun hg => ?_) (fun hg => ?_) | refine iteI (fun hg => ?_) (fun hg => ?_) | ((first | refine ⟨by omega, ?_⟩ | refine ⟨_, Cell.at 0 rfl rfl, ?_⟩ | fail); try simp (maxSteps := 1000000) only [Φa, Φb, Φc, Φd, ev, Φe, Φf, Φg, Φh, Φi, Φj, Φk, Φl, reduceIte, reduceCtorEq, if_true, if_false, Φm, Φn, Φo, Φp, true_and, and_true, false_and, and_false, true_implies, forall_const, false_implies, ne_eq, not_true_eq_false, not_false_eq_true, decide_true, decide_false, Φq, and_self, true_or, or_true, dite_true, dite_false, Φr, Φs, decide_eq_true_eq, decide_eq_false_iff_not, Φt, Φu, Φv, Φw, beq_self_eq_true, Φx, Φy, Φz, ΦA, ΦB, eq_self, VCplan, ΦC, ΦD, VCops, VQops, guardVC, putVC, VC, VQ, ΦE, ΦF, ΦG, ΦH, ΦI, ΦJ, ΦK, List.getElem?_cons_zero, List.getElem?_cons_succ, List.getElem?_nil, List.getElem?_toArray, ΦL, ΦM, ΦN, ΦO, ΦP, ΦQ, ΦR, ΦS, ΦT, ΦU, ΦV, ΦW, ΦX, ΦY, ΦZ, Ψa, Ψb, Ψc, Ψd, Ψe, Ψf, Ψg, Ψh, Ψi, Ψj, Ψk, Ψl, exists_eq_left, exists_eq_left', exists_const, existsSome, Ψm, Ψn, fa_ptr, Addr.add_lit, Addr.add_zero', add_addS, Ψo, Int.toNat_zero, Int.toNat_one, Int.reduceToNat, T.elA_23, T.lay_23, T.szA_23, T.zr_23, Tryd.underlying23, ld_ptr, loadVC, loadN, T.szA_3, T.zr_3, Tryd.underlying3, bin_sub, qcall_f, call_f, len_slice, len_str, cap_slice, min_int, max_int, hP, h4_1]) | fail)
          all_goals
            refine hK7 () _ (some (bx, .cells #[.int .i64 l, .int .i64 c, .bool o, .int .i64 g] 23 (0, 0)) :: L) _ (by first | exact Less.refl _ | exact Less.drop _ _ | exact Less.drops (Less.drop _ _) | exact Less.drops (Less.drops (Less.drop _ _)) | exact Less.drops (Less.drops (Less.drops (Less.drop _ _))) | exact Less.drops (Less.drops (Less.drops (Less.drops (Less.drop _ _))))) ?_
            try dsimp only
            refine ⟨?_, ?_, ?_, ?_⟩
            · simp (maxSteps := 1000000) only [Φa, Φb, Φc, Φd, ev, Φe, Φf, Φg, Φh, Φi, Φj, Φk, Φl, reduceIte, reduceCtorEq, if_true, if_false, Φm, Φn, Φo, Φp, true_and, and_true, false_and, and_false, true_implies, forall_const, false_implies, ne_eq, not_true_eq_false, not_false_eq_true, decide_true, decide_false, Φq, and_self, true_or, or_true, dite_true, dite_false, Φr, Φs, decide_eq_true_eq, decide_eq_false_iff_not, Φt, Φu, Φv, Φw, beq_self_eq_true, Φx, Φy, Φz, ΦA, ΦB, eq_self, hP, h4_1]
              first | done | rfl
            · simp (maxSteps := 1000000) only [Φa, Φb, Φc, Φd, ev, Φe, Φf, Φg, Φh, Φi, Φj, Φk, Φl, reduceIte, reduceCtorEq, if_true, if_false, Φm, Φn, Φo, Φp, true_and, and_true, false_and, and_false, true_implies, forall_const, false_implies, ne_eq, not_true_eq_false, not_false_eq_true, decide_true, decide_false, Φq, and_self, true_or, or_true, dite_true, dite_false, Φr, Φs, decide_eq_true_eq, decide_eq_false_iff_not, Φt, Φu, Φv, Φw, beq_self_eq_true, Φx, Φy, Φz, ΦA, ΦB, eq_self, hP, h4_1]
            · rfl
            · trivial
        · intro ss T5 L5 hI
          simp only [h4_1] at hI 
          obtain ⟨h5_3, h5_1, hL5, hinv⟩ := hI
          replace hL5 := hL5.symm
          subst hL5
          clear h4_1 T4
          refine RX.done ?_
          simp (maxSteps := 1000000) only [Φa, Φb, Φc, Φd, ev, Φe, Φf, Φg, Φh, Φi, Φj, Φk, Φl, reduceIte, reduceCtorEq, if_true, if_false, Φm, Φn, Φo, Φp, true_and, and_true, false_and, and_false, true_implies, forall_const, false_implies, ne_eq, not_true_eq_false, not_false_eq_true, decide_true, decide_false, Φq, and_self, true_or, or_true, dite_true, dite_false, Φr, Φs, decide_eq_true_eq, decide_eq_false_iff_not, Φt, Φu, Φv, Φw, beq_self_eq_true, Φx, Φy, Φz, ΦA, ΦB, eq_self, VCplan, ΦC, ΦD, VCops, VQops, guardVC, putVC, VC, VQ, ΦE, ΦF, ΦG, ΦH, ΦI, ΦJ, ΦK, List.getElem?_cons_zero, List.getElem?_cons_succ, List.getElem?_nil, List.getElem?_toArray, ΦL, ΦM, ΦN, ΦO, ΦP, ΦQ, ΦR, ΦS, ΦT, ΦU, ΦV, ΦW, ΦX, ΦY, ΦZ, Ψa, Ψb, Ψc, Ψd, Ψe, Ψf, Ψg, Ψh, Ψi, Ψj, Ψk, Ψl, exists_eq_left, exists_eq_left', exists_const, existsSome, Ψm, Ψn, hP, h5_3, h5_1]
          refine hK3 (if 8 < (if 0 > IntKind.i64.wrap (c - 2) then 0 else IntKind.i64.wrap (c - 2)) then 8 else (if 0 > IntKind.i64.wrap (c - 2) then 0 else IntKind.i64.wrap (c - 2))) _ (some (bx, .cells #[.int .i64 l, .int .i64 c, .bool o, .int .i64 g] 23 (0, 0)) :: L) _ (by first | exact Less.refl _ | exact Less.drop _ _ | exact Less.drops (Less.drop _ _) | exact Less.drops (Less.drops (Less.drop _ _)) | exact Less.drops (Less.drops (Less.drops (Less.drop _ _))) | exact Less.drops (Less.drops (Less.drops (Less.drops (Less.drop _ _))))) ?_
          try dsimp only
          refine ⟨?_, ?_, ?_, ?_⟩
          · simp (maxSteps := 1000000) only [Φa, Φb, Φc, Φd, ev, Φe, Φf, Φg, Φh, Φi, Φj, Φk, Φl, reduceIte, reduceCtorEq, if_true, if_false, Φm, Φn, Φo, Φp, true_and, and_true, false_and, and_false, true_implies, forall_const, false_implies, ne_eq, not_true_eq_false, not_false_eq_true, decide_true, decide_false, Φq, and_self, true_or, or_true, dite_true, dite_false, Φr, Φs, decide_eq_true_eq, decide_eq_false_iff_not, Φt, Φu, Φv, Φw, beq_self_eq_true, Φx, Φy, Φz, ΦA, ΦB, eq_self, hP, h5_3, h5_1]
            first | done | rfl | skip
          · simp (maxSteps := 1000000) only [Φa, Φb, Φc, Φd, ev, Φe, Φf, Φg, Φh, Φi, Φj, Φk, Φl, reduceIte, reduceCtorEq, if_true, if_false, Φm, Φn, Φo, Φp, true_and, and_true, false_and, and_false, true_implies, forall_const, false_implies, ne_eq, not_true_eq_false, not_false_eq_true, decide_true, decide_false, Φq, and_self, true_or, or_true, dite_true, dite_false, Φr, Φs, decide_eq_true_eq, decide_eq_false_iff_not, Φt, Φu, Φv, Φw, beq_self_eq_true, Φx, Φy, Φz, ΦA, ΦB, eq_self, hP, h5_3, h5_1]
          · rfl
          · exact ⟨fun _ => rfl, fun h => absurd hc7 h⟩
      · clear hX6 hY6 X6 Y6
        refine SX.skip ?_
        simp only [Φe, Φf, Φg, Φh, Φi, Φj, Φk, if_true, if_false, reduceIte]
        refine hK3 0 _ (some (bx, .cells #[.int .i64 l, .int .i64 c, .bool o, .int .i64 g] 23 (0, 0)) :: L) _ (by first | exact Less.refl _ | exact Less.drop _ _ | exact Less.drops (Less.drop _ _) | exact Less.drops (Less.drops (Less.drop _ _)) | exact Less.drops (Less.drops (Less.drops (Less.drop _ _))) | exact Less.drops (Less.drops (Less.drops (Less.drops (Less.drop _ _))))) ?_
        try dsimp only
        refine ⟨?_, ?_, ?_, ?_⟩
        · simp (maxSteps := 1000000) only [Φa, Φb, Φc, Φd, ev, Φe, Φf, Φg, Φh, Φi, Φj, Φk, Φl, reduceIte, reduceCtorEq, if_true, if_false, Φm, Φn, Φo, Φp, true_and, and_true, false_and, and_false, true_implies, forall_const, false_implies, ne_eq, not_true_eq_false, not_false_eq_true, decide_true, decide_false, Φq, and_self, true_or, or_true, dite_true, dite_false, Φr, Φs, decide_eq_true_eq, decide_eq_false_iff_not, Φt, Φu, Φv, Φw, beq_self_eq_true, Φx, Φy, Φz, ΦA, ΦB, eq_self, hP, h3_7, h3_1, h3_3]
          first | done | rfl | skip
        · simp (maxSteps := 1000000) only [Φa, Φb, Φc, Φd, ev, Φe, Φf, Φg, Φh, Φi, Φj, Φk, Φl, reduceIte, reduceCtorEq, if_true, if_false, Φm, Φn, Φo, Φp, true_and, and_true, false_and, and_false, true_implies, forall_const, false_implies, ne_eq, not_true_eq_false, not_false_eq_true, decide_true, decide_false, Φq, and_self, true_or, or_true, dite_true, dite_false, Φr, Φs, decide_eq_true_eq, decide_eq_false_iff_not, Φt, Φu, Φv, Φw, beq_self_eq_true, Φx, Φy, Φz, ΦA, ΦB, eq_self, hP, h3_7, h3_1, h3_3]
        · rfl
        · exact ⟨fun h => absurd h hc7, fun _ => rfl⟩
  · intro k T6 L6 hI
    try dsimp only at hI 
    simp only [h1_1] at hI 
    obtain ⟨h6_3, h6_1, hL6, ⟨hk1, hk2⟩⟩ := hI
    replace hL6 := hL6.symm
    subst hL6
    clear h1_1 h1_3 T1
    refine SX.seq_k fun K8 hK8 => ?_
    refine SX.seq_k fun K9 hK9 => ?_
    refine SX.region_x ?_
    refine RX.live [1, 3] (fun T7 hT7 => ?_)
    simp only [forall_mem_cons', forall_mem_nil', Φa, Φb, Φc, Φd, ev, Φe, Φf, Φg, Φh, Φi, Φj, Φk, Φl, reduceIte, reduceCtorEq, if_true, if_false, Φm, Φn, Φo, Φp, true_and, and_true, false_and, and_false, true_implies, forall_const, false_implies, ne_eq, not_true_eq_false, not_false_eq_true, decide_true, decide_false, Φq, and_self, true_or, or_true, dite_true, dite_false, Φr, Φs, decide_eq_true_eq, decide_eq_false_iff_not, Φt, Φu, Φv, Φw, beq_self_eq_true, Φx, Φy, Φz, ΦA, ΦB, eq_self, hP, h6_3, h6_1] at hT7
    obtain ⟨h7_1, h7_3⟩ := hT7
    clear h6_3 h6_1 T6
    have hw : (0 ≤ c ∧ c < 14) → IntKind.i64.wrap (c - 2) = c - 2 := fun h => w64 (by omega)
    refine RX.join 8 (fun (ss : Unit) T L' => T 20 = .bool (decide (l < 0 ∨ 262 ≤ l)) ∧ T 1 = T7 1 ∧ T 3 = T7 3 ∧ L' = some (bx, .cells #[.int .i64 l, .int .i64 c, .bool o, .int .i64 g] 23 (0, 0)) :: L ∧ (True)) (fun K10 hK10 => ?_) ?_
    · simp only [h7_1, h7_3] at hK10
      simp (maxSteps := 1000000) only [Φa, Φb, Φc, Φd, ev, Φe, Φf, Φg, Φh, Φi, Φj, Φk, Φl, reduceIte, reduceCtorEq, if_true, if_false, Φm, Φn, Φo, Φp, true_and, and_true, false_and, and_false, true_implies, forall_const, false_implies, ne_eq, not_true_eq_false, not_false_eq_true, decide_true, decide_false, Φq, and_self, true_or, or_true, dite_true, dite_false, Φr, Φs, decide_eq_true_eq, decide_eq_false_iff_not, Φt, Φu, Φv, Φw, beq_self_eq_true, Φx, Φy, Φz, ΦA, ΦB, eq_self, VCplan, ΦC, ΦD, VCops, VQops, guardVC, putVC, VC, VQ, ΦE, ΦF, ΦG, ΦH, ΦI, ΦJ, ΦK, List.getElem?_cons_zero, List.getElem?_cons_succ, List.getElem?_nil, List.getElem?_toArray, ΦL, ΦM, ΦN, ΦO, ΦP, ΦQ, ΦR, ΦS, ΦT, ΦU, ΦV, ΦW, ΦX, ΦY, ΦZ, Ψa, Ψb, Ψc, Ψd, Ψe, Ψf, Ψg, Ψh, Ψi, Ψj, Ψk, Ψl, exists_eq_left, exists_eq_left', exists_const, existsSome, Ψm, Ψn, fa_ptr, Addr.add_lit, Addr.add_zero', add_addS, Ψo, Int.toNat_zero, Int.toNat_one, Int.reduceToNat, T.elA_23, T.lay_23, T.szA_23, T.zr_23, Tryd.underlying23, ld_ptr, loadVC, loadN, T.szA_3, T.zr_3, Tryd.underlying3, bin_lss, bin_geq, pick_bool, hP, h7_1, h7_3]
      repeat' (first | refine iteB (fun hg => ?_) (fun hg => ?_) | refine iteI (fun hg => ?_) (fun hg => ?_) | ((first | refine ⟨by omega, ?_⟩ | refine ⟨_, Cell.at 0 rfl rfl, ?_⟩ | fail); try simp (maxSteps := 1000000) only [Φa, Φb, Φc, Φd, ev, Φe, Φf, Φg, Φh, Φi, Φj, Φk, Φl, reduceIte, reduceCtorEq, if_true, if_false, Φm, Φn, Φo, Φp, true_and, and_true, false_and, and_false, true_implies, forall_const, false_implies, ne_eq, not_true_eq_false, not_false_eq_true, decide_true, decide_false, Φq, and_self, true_or, or_true, dite_true, dite_false, Φr, Φs, decide_eq_true_eq, decide_eq_false_iff_not, Φt, Φu, Φv, Φw, beq_self_eq_true, Φx, Φy, Φz, ΦA, ΦB, eq_self, VCplan, ΦC, ΦD, VCops, VQops, guardVC, putVC, VC, VQ, ΦE, ΦF, ΦG, ΦH, ΦI, ΦJ, ΦK, List.getElem?_cons_zero, List.getElem?_cons_succ, List.getElem?_nil, List.getElem?_toArray, ΦL, ΦM, ΦN, ΦO, ΦP, ΦQ, ΦR, ΦS, ΦT, ΦU, ΦV, ΦW, ΦX, ΦY, ΦZ, Ψa, Ψb, Ψc, Ψd, Ψe, Ψf, Ψg, Ψh, Ψi, Ψj, Ψk, Ψl, exists_eq_left, exists_eq_left', exists_const, existsSome, Ψm, Ψn, fa_ptr, Addr.add_lit, Addr.add_zero', add_addS, Ψo, Int.toNat_zero, Int.toNat_one, Int.reduceToNat, T.elA_23, T.lay_23, T.szA_23, T.zr_23, Tryd.underlying23, ld_ptr, loadVC, loadN, T.szA_3, T.zr_3, Tryd.underlying3, bin_lss, bin_geq, pick_bool, hP, h7_1, h7_3]) | fail)
      all_goals
        refine hK10 () _ (some (bx, .cells #[.int .i64 l, .int .i64 c, .bool o, .int .i64 g] 23 (0, 0)) :: L) _ (by first | exact Less.refl _ | exact Less.drop _ _ | exact Less.drops (Less.drop _ _) | exact Less.drops (Less.drops (Less.drop _ _)) | exact Less.drops (Less.drops (Less.drops (Less.drop _ _))) | exact Less.drops (Less.drops (Less.drops (Less.drops (Less.drop _ _))))) ?_
        try dsimp only
        refine ⟨?_, ?_, ?_, ?_, ?_⟩
        · simp (maxSteps := 1000000) only [Φa, Φb, Φc, Φd, ev, Φe, Φf, Φg, Φh, Φi, Φj, Φk, Φl, reduceIte, reduceCtorEq, if_true, if_false, Φm, Φn, Φo, Φp, true_and, and_true, false_and, and_false, true_implies, forall_const, false_implies, ne_eq, not_true_eq_false, not_false_eq_true, decide_true, decide_false, Φq, and_self, true_or, or_true, dite_true, dite_false, Φr, Φs, decide_eq_true_eq, decide_eq_false_iff_not, Φt, Φu, Φv, Φw, beq_self_eq_true, Φx, Φy, Φz, ΦA, ΦB, eq_self, hP, h7_1, h7_3]
          first | done | exact congrArg _ (decide_eq_decide.2 (by omega)) | exact congrArg _ (decide_eq_true (by omega)).symm | exact congrArg _ (decide_eq_false (by omega)).symm
        · simp (maxSteps := 1000000) only [Φa, Φb, Φc, Φd, ev, Φe, Φf, Φg, Φh, Φi, Φj, Φk, Φl, reduceIte, reduceCtorEq, if_true, if_false, Φm, Φn, Φo, Φp, true_and, and_true, false_and, and_false, true_implies, forall_const, false_implies, ne_eq, not_true_eq_false, not_false_eq_true, decide_true, decide_false, Φq, and_self, true_or, or_true, dite_true, dite_false, Φr, Φs, decide_eq_true_eq, decide_eq_false_iff_not, Φt, Φu, Φv, Φw, beq_self_eq_true, Φx, Φy, Φz, ΦA, ΦB, eq_self, hP, h7_1, h7_3]
        · simp (maxSteps := 1000000) only [Φa, Φb, Φc, Φd, ev, Φe, Φf, Φg, Φh, Φi, Φj, Φk, Φl, reduceIte, reduceCtorEq, if_true, if_false, Φm, Φn, Φo, Φp, true_and, and_true, false_and, and_false, true_implies, forall_const, false_implies, ne_eq, not_true_eq_false, not_false_eq_true, decide_true, decide_false, Φq, and_self, true_or, or_true, dite_true, dite_false, Φr, Φs, decide_eq_true_eq, decide_eq_false_iff_not, Φt, Φu, Φv, Φw, beq_self_eq_true, Φx, Φy, Φz, ΦA, ΦB, eq_self, hP, h7_1, h7_3]
        · rfl
        · trivial
    · intro ss T8 L8 hI
      simp only [h7_1, h7_3] at hI 
      obtain ⟨h8_20, h8_1, h8_3, hL8, hinv⟩ := hI
      replace hL8 := hL8.symm
      subst hL8
      clear h7_1 h7_3 T7
      refine RX.live [1, 3, 20] (fun T9 hT9 => ?_)
      simp only [forall_mem_cons', forall_mem_nil', Φa, Φb, Φc, Φd, ev, Φe, Φf, Φg, Φh, Φi, Φj, Φk, Φl, reduceIte, reduceCtorEq, if_true, if_false, Φm, Φn, Φo, Φp, true_and, and_true, false_and, and_false, true_implies, forall_const, false_implies, ne_eq, not_true_eq_false, not_false_eq_true, decide_true, decide_false, Φq, and_self, true_or, or_true, dite_true, dite_false, Φr, Φs, decide_eq_true_eq, decide_eq_false_iff_not, Φt, Φu, Φv, Φw, beq_self_eq_true, Φx, Φy, Φz, ΦA, ΦB, eq_self, hP, h8_20, h8_1, h8_3] at hT9
      obtain ⟨h9_1, h9_3, h9_20⟩ := hT9
      clear h8_20 h8_1 h8_3 T8
      refine RX.join 5 (fun (ss : Unit) T L' => T 25 = .bool (decide (l < 0 ∨ 262 ≤ l ∨ c < 0)) ∧ T 1 = T9 1 ∧ T 3 = T9 3 ∧ L' = some (bx, .cells #[.int .i64 l, .int .i64 c, .bool o, .int .i64 g] 23 (0, 0)) :: L ∧ (True)) (fun K11 hK11 => ?_) ?_
      · simp only [h9_1, h9_3] at hK11
        simp (maxSteps := 1000000) only [Φa, Φb, Φc, Φd, ev, Φe, Φf, Φg, Φh, Φi, Φj, Φk, Φl, reduceIte, reduceCtorEq, if_true, if_false, Φm, Φn, Φo, Φp, true_and, and_true, false_and, and_false, true_implies, forall_const, false_implies, ne_eq, not_true_eq_false, not_false_eq_true, decide_true, decide_false, Φq, and_self, true_or, or_true, dite_true, dite_false, Φr, Φs, decide_eq_true_eq, decide_eq_false_iff_not, Φt, Φu, Φv, Φw, beq_self_eq_true, Φx, Φy, Φz, ΦA, ΦB, eq_self, VCplan, ΦC, ΦD, VCops, VQops, guardVC, putVC, VC, VQ, ΦE, ΦF, ΦG, ΦH, ΦI, ΦJ, ΦK, List.getElem?_cons_zero, List.getElem?_cons_succ, List.getElem?_nil, List.getElem?_toArray, ΦL, ΦM, ΦN, ΦO, ΦP, ΦQ, ΦR, ΦS, ΦT, ΦU, ΦV, ΦW, ΦX, ΦY, ΦZ, Ψa, Ψb, Ψc, Ψd, Ψe, Ψf, Ψg, Ψh, Ψi, Ψj, Ψk, Ψl, exists_eq_left, exists_eq_left', exists_const, existsSome, Ψm, Ψn, fa_ptr, Addr.add_lit, Addr.add_zero', add_addS, Ψo, Int.toNat_zero, Int.toNat_one, Int.reduceToNat, T.elA_23, T.lay_23, T.szA_23, T.zr_23, Tryd.underlying23, ld_ptr, loadVC, loadN, T.szA_3, T.zr_3, Tryd.underlying3, bin_lss, pick_bool, hP, h9_1, h9_3, h9_20]
        repeat' (first | refine iteB (fun hg => ?_) (fun hg => ?_) | refine iteI (fun hg => ?_) (fun hg => ?_) | ((first | refine ⟨by omega, ?_⟩ | refine ⟨_, Cell.at 0 rfl rfl, ?_⟩ | fail); try simp (maxSteps := 1000000) only [Φa, Φb, Φc, Φd, ev, Φe, Φf, Φg, Φh, Φi, Φj, Φk, Φl, reduceIte, reduceCtorEq, if_true, if_false, Φm, Φn, Φo, Φp, true_and, and_true, false_and, and_false, true_implies, forall_const, false_implies, ne_eq, not_true_eq_false, not_false_eq_true, decide_true, decide_false, Φq, and_self, true_or, or_true, dite_true, dite_false, Φr, Φs, decide_eq_true_eq, decide_eq_false_iff_not, Φt, Φu, Φv, Φw, beq_self_eq_true, Φx, Φy, Φz, ΦA, ΦB, eq_self, VCplan, ΦC, ΦD, VCops, VQops, guardVC, putVC, VC, VQ, ΦE, ΦF, ΦG, ΦH, ΦI, ΦJ, ΦK, List.getElem?_cons_zero, List.getElem?_cons_succ, List.getElem?_nil, List.getElem?_toArray, ΦL, ΦM, ΦN, ΦO, ΦP, ΦQ, ΦR, ΦS, ΦT, ΦU, ΦV, ΦW, ΦX, ΦY, ΦZ, Ψa, Ψb, Ψc, Ψd, Ψe, Ψf, Ψg, Ψh, Ψi, Ψj, Ψk, Ψl, exists_eq_left, exists_eq_left', exists_const, existsSome, Ψm, Ψn, fa_ptr, Addr.add_lit, Addr.add_zero', add_addS, Ψo, Int.toNat_zero, Int.toNat_one, Int.reduceToNat, T.elA_23, T.lay_23, T.szA_23, T.zr_23, Tryd.underlying23, ld_ptr, loadVC, loadN, T.szA_3, T.zr_3, Tryd.underlying3, bin_lss, pick_bool, hP, h9_1, h9_3, h9_20]) | fail)
        all_goals
          refine hK11 () _ (some (bx, .cells #[.int .i64 l, .int .i64 c, .bool o, .int .i64 g] 23 (0, 0)) :: L) _ (by first | exact Less.refl _ | exact Less.drop _ _ | exact Less.drops (Less.drop _ _) | exact Less.drops (Less.drops (Less.drop _ _)) | exact Less.drops (Less.drops (Less.drops (Less.drop _ _))) | exact Less.drops (Less.drops (Less.drops (Less.drops (Less.drop _ _))))) ?_
          try dsimp only
          refine ⟨?_, ?_, ?_, ?_, ?_⟩
          · simp (maxSteps := 1000000) only [Φa, Φb, Φc, Φd, ev, Φe, Φf, Φg, Φh, Φi, Φj, Φk, Φl, reduceIte, reduceCtorEq, if_true, if_false, Φm, Φn, Φo, Φp, true_and, and_true, false_and, and_false, true_implies, forall_const, false_implies, ne_eq, not_true_eq_false, not_false_eq_true, decide_true, decide_false, Φq, and_self, true_or, or_true, dite_true, dite_false, Φr, Φs, decide_eq_true_eq, decide_eq_false_iff_not, Φt, Φu, Φv, Φw, beq_self_eq_true, Φx, Φy, Φz, ΦA, ΦB, eq_self, hP, h9_1, h9_3, h9_20]
            first | done | exact congrArg _ (decide_eq_decide.2 (by omega)) | exact congrArg _ (decide_eq_true (by omega)).symm | exact congrArg _ (decide_eq_false (by omega)).symm
          · simp (maxSteps := 1000000) only [Φa, Φb, Φc, Φd, ev, Φe, Φf, Φg, Φh, Φi, Φj, Φk, Φl, reduceIte, reduceCtorEq, if_true, if_false, Φm, Φn, Φo, Φp, true_and, and_true, false_and, and_false, true_implies, forall_const, false_implies, ne_eq, not_true_eq_false, not_false_eq_true, decide_true, decide_false, Φq, and_self, true_or, or_true, dite_true, dite_false, Φr, Φs, decide_eq_true_eq, decide_eq_false_iff_not, Φt, Φu, Φv, Φw, beq_self_eq_true, Φx, Φy, Φz, ΦA, ΦB, eq_self, hP, h9_1, h9_3, h9_20]
          · simp (maxSteps := 1000000) only [Φa, Φb, Φc, Φd, ev, Φe, Φf, Φg, Φh, Φi, Φj, Φk, Φl, reduceIte, reduceCtorEq, if_true, if_false, Φm, Φn, Φo, Φp, true_and, and_true, false_and, and_false, true_implies, forall_const, false_implies, ne_eq, not_true_eq_false, not_false_eq_true, decide_true, decide_false, Φq, and_self, true_or, or_true, dite_true, dite_false, Φr, Φs, decide_eq_true_eq, decide_eq_false_iff_not, Φt, Φu, Φv, Φw, beq_self_eq_true, Φx, Φy, Φz, ΦA, ΦB, eq_self, hP, h9_1, h9_3, h9_20]
          · rfl
          · trivial
      · intro ss T10 L10 hI
        simp only [h9_1, h9_3] at hI 
        obtain ⟨h10_25, h10_1, h10_3, hL10, hinv⟩ := hI
        replace hL10 := hL10.symm
        subst hL10
        clear h9_1 h9_3 h9_20 T9
        refine RX.live [1, 3, 25] (fun T11 hT11 => ?_)
        simp only [forall_mem_cons', forall_mem_nil', Φa, Φb, Φc, Φd, ev, Φe, Φf, Φg, Φh, Φi, Φj, Φk, Φl, reduceIte, reduceCtorEq, if_true, if_false, Φm, Φn, Φo, Φp, true_and, and_true, false_and, and_false, true_implies, forall_const, false_implies, ne_eq, not_true_eq_false, not_false_eq_true, decide_true, decide_false, Φq, and_self, true_or, or_true, dite_true, dite_false, Φr, Φs, decide_eq_true_eq, decide_eq_false_iff_not, Φt, Φu, Φv, Φw, beq_self_eq_true, Φx, Φy, Φz, ΦA, ΦB, eq_self, hP, h10_25, h10_1, h10_3] at hT11
        obtain ⟨h11_1, h11_3, h11_25⟩ := hT11
        clear h10_25 h10_1 h10_3 T10
        refine RX.join 5 (fun (ss : Unit) T L' => T 30 = .bool (decide (l < 0 ∨ 262 ≤ l ∨ c < 0 ∨ 14 ≤ c)) ∧ T 1 = T11 1 ∧ T 3 = T11 3 ∧ L' = some (bx, .cells #[.int .i64 l, .int .i64 c, .bool o, .int .i64 g] 23 (0, 0)) :: L ∧ (True)) (fun K12 hK12 => ?_) ?_
        · simp only [h11_1, h11_3] at hK12
          simp (maxSteps := 1000000) only [Φa, Φb, Φc, Φd, ev, Φe, Φf, Φg, Φh, Φi, Φj, Φk, Φl, reduceIte, reduceCtorEq, if_true, if_false, Φm, Φn, Φo, Φp, true_and, and_true, false_and, and_false, true_implies, forall_const, false_implies, ne_eq, not_true_eq_false, not_false_eq_true, decide_true, decide_false, Φq, and_self, true_or, or_true, dite_true, dite_false, Φr, Φs, decide_eq_true_eq, decide_eq_false_iff_not, Φt, Φu, Φv, Φw, beq_self_eq_true, Φx, Φy, Φz, ΦA, ΦB, eq_self, VCplan, ΦC, ΦD, VCops, VQops, guardVC, putVC, VC, VQ, ΦE, ΦF, ΦG, ΦH, ΦI, ΦJ, ΦK, List.getElem?_cons_zero, List.getElem?_cons_succ, List.getElem?_nil, List.getElem?_toArray, ΦL, ΦM, ΦN, ΦO, ΦP, ΦQ, ΦR, ΦS, ΦT, ΦU, ΦV, ΦW, ΦX, ΦY, ΦZ, Ψa, Ψb, Ψc, Ψd, Ψe, Ψf, Ψg, Ψh, Ψi, Ψj, Ψk, Ψl, exists_eq_left, exists_eq_left', exists_const, existsSome, Ψm, Ψn, fa_ptr, Addr.add_lit, Addr.add_zero', add_addS, Ψo, Int.toNat_zero, Int.toNat_one, Int.reduceToNat, T.elA_23, T.lay_23, T.szA_23, T.zr_23, Tryd.underlying23, ld_ptr, loadVC, loadN, T.szA_3, T.zr_3, Tryd.underlying3, bin_geq, pick_bool, hP, h11_1, h11_3, h11_25]
          repeat' (first | refine iteB (fun hg => ?_) (fun hg => ?_) | refine iteI (fun hg => ?_) (fun hg => ?_) | ((first | refine ⟨by omega, ?_⟩ | refine ⟨_, Cell.at 0 rfl rfl, ?_⟩ | fail); try simp (maxSteps := 1000000) only [Φa, Φb, Φc, Φd, ev, Φe, Φf, Φg, Φh, Φi, Φj, Φk, Φl, reduceIte, reduceCtorEq, if_true, if_false, Φm, Φn, Φo, Φp, true_and, and_true, false_and, and_false, true_implies, forall_const, false_implies, ne_eq, not_true_eq_false, not_false_eq_true, decide_true, decide_false, Φq, and_self, true_or, or_true, dite_true, dite_false, Φr, Φs, decide_eq_true_eq, decide_eq_false_iff_not, Φt, Φu, Φv, Φw, beq_self_eq_true, Φx, Φy, Φz, ΦA, ΦB, eq_self, VCplan, ΦC, ΦD, VCops, VQops, guardVC, putVC, VC, VQ, ΦE, ΦF, ΦG, ΦH, ΦI, ΦJ, ΦK, List.getElem?_cons_zero, List.getElem?_cons_succ, List.getElem?_nil, List.getElem?_toArray, ΦL, ΦM, ΦN, ΦO, ΦP, ΦQ, ΦR, ΦS, ΦT, ΦU, ΦV, ΦW, ΦX, ΦY, ΦZ, Ψa, Ψb, Ψc, Ψd, Ψe, Ψf, Ψg, Ψh, Ψi, Ψj, Ψk, Ψl, exists_eq_left, exists_eq_left', exists_const, existsSome, Ψm, Ψn, fa_ptr, Addr.add_lit, Addr.add_zero', add_addS, Ψo, Int.toNat_zero, Int.toNat_one, Int.reduceToNat, T.elA_23, T.lay_23, T.szA_23, T.zr_23, Tryd.underlying23, ld_ptr, loadVC, loadN, T.szA_3, T.zr_3, Tryd.underlying3, bin_geq, pick_bool, hP, h11_1, h11_3, h11_25]) | fail)
          all_goals
            refine hK12 () _ (some (bx, .cells #[.int .i64 l, .int .i64 c, .bool o, .int .i64 g] 23 (0, 0)) :: L) _ (by first | exact Less.refl _ | exact Less.drop _ _ | exact Less.drops (Less.drop _ _) | exact Less.drops (Less.drops (Less.drop _ _)) | exact Less.drops (Less.drops (Less.drops (Less.drop _ _))) | exact Less.drops (Less.drops (Less.drops (Less.drops (Less.drop _ _))))) ?_
            try dsimp only
            refine ⟨?_, ?_, ?_, ?_, ?_⟩
            · simp (maxSteps := 1000000) only [Φa, Φb, Φc, Φd, ev, Φe, Φf, Φg, Φh, Φi, Φj, Φk, Φl, reduceIte, reduceCtorEq, if_true, if_false, Φm, Φn, Φo, Φp, true_and, and_true, false_and, and_false, true_implies, forall_const, false_implies, ne_eq, not_true_eq_false, not_false_eq_true, decide_true, decide_false, Φq, and_self, true_or, or_true, dite_true, dite_false, Φr, Φs, decide_eq_true_eq, decide_eq_false_iff_not, Φt, Φu, Φv, Φw, beq_self_eq_true, Φx, Φy, Φz, ΦA, ΦB, eq_self, hP, h11_1, h11_3, h11_25]
              first | done | exact congrArg _ (decide_eq_decide.2 (by omega)) | exact congrArg _ (decide_eq_true (by omega)).symm | exact congrArg _ (decide_eq_false (by omega)).symm
            · simp (maxSteps := 1000000) only [Φa, Φb, Φc, Φd, ev, Φe, Φf, Φg, Φh, Φi, Φj, Φk, Φl, reduceIte, reduceCtorEq, if_true, if_false, Φm, Φn, Φo, Φp, true_and, and_true, false_and, and_false, true_implies, forall_const, false_implies, ne_eq, not_true_eq_false, not_false_eq_true, decide_true, decide_false, Φq, and_self, true_or, or_true, dite_true, dite_false, Φr, Φs, decide_eq_true_eq, decide_eq_false_iff_not, Φt, Φu, Φv, Φw, beq_self_eq_true, Φx, Φy, Φz, ΦA, ΦB, eq_self, hP, h11_1, h11_3, h11_25]
            · simp (maxSteps := 1000000) only [Φa, Φb, Φc, Φd, ev, Φe, Φf, Φg, Φh, Φi, Φj, Φk, Φl, reduceIte, reduceCtorEq, if_true, if_false, Φm, Φn, Φo, Φp, true_and, and_true, false_and, and_false, true_implies, forall_const, false_implies, ne_eq, not_true_eq_false, not_false_eq_true, decide_true, decide_false, Φq, and_self, true_or, or_true, dite_true, dite_false, Φr, Φs, decide_eq_true_eq, decide_eq_false_iff_not, Φt, Φu, Φv, Φw, beq_self_eq_true, Φx, Φy, Φz, ΦA, ΦB, eq_self, hP, h11_1, h11_3, h11_25]
            · rfl
            · trivial
        · intro ss T12 L12 hI
          simp only [h11_1, h11_3] at hI 
          obtain ⟨h12_30, h12_1, h12_3, hL12, hinv⟩ := hI
          replace hL12 := hL12.symm
          subst hL12
          clear h11_1 h11_3 h11_25 T11
          refine RX.live [1, 3, 30] (fun T13 hT13 => ?_)
          simp only [forall_mem_cons', forall_mem_nil', Φa, Φb, Φc, Φd, ev, Φe, Φf, Φg, Φh, Φi, Φj, Φk, Φl, reduceIte, reduceCtorEq, if_true, if_false, Φm, Φn, Φo, Φp, true_and, and_true, false_and, and_false, true_implies, forall_const, false_implies, ne_eq, not_true_eq_false, not_false_eq_true, decide_true, decide_false, Φq, and_self, true_or, or_true, dite_true, dite_false, Φr, Φs, decide_eq_true_eq, decide_eq_false_iff_not, Φt, Φu, Φv, Φw, beq_self_eq_true, Φx, Φy, Φz, ΦA, ΦB, eq_self, hP, h12_30, h12_1, h12_3] at hT13
          obtain ⟨h13_1, h13_3, h13_30⟩ := hT13
          clear h12_30 h12_1 h12_3 T12
          refine RX.join 5 (fun (ss : Unit) T L' => T 35 = .bool (decide (l < 0 ∨ 262 ≤ l ∨ c < 0 ∨ 14 ≤ c ∨ g < 0)) ∧ T 1 = T13 1 ∧ T 3 = T13 3 ∧ L' = some (bx, .cells #[.int .i64 l, .int .i64 c, .bool o, .int .i64 g] 23 (0, 0)) :: L ∧ (True)) (fun K13 hK13 => ?_) ?_
          · simp only [h13_1, h13_3] at hK13
            simp (maxSteps := 1000000) only [Φa, Φb, Φc, Φd, ev, Φe, Φf, Φg, Φh, Φi, Φj, Φk, Φl, reduceIte, reduceCtorEq, if_true, if_false, Φm, Φn, Φo, Φp, true_and, and_true, false_and, and_false, true_implies, forall_const, false_implies, ne_eq, not_true_eq_false, not_false_eq_true, decide_true, decide_false, Φq, and_self, true_or, or_true, dite_true, dite_false, Φr, Φs, decide_eq_true_eq, decide_eq_false_iff_not, Φt, Φu, Φv, Φw, beq_self_eq_true, Φx, Φy, Φz, ΦA, ΦB, eq_self, VCplan, ΦC, ΦD, VCops, VQops, guardVC, putVC, VC, VQ, ΦE, ΦF, ΦG, ΦH, ΦI, ΦJ, ΦK, List.getElem?_cons_zero, List.getElem?_cons_succ, List.getElem?_nil, List.getElem?_toArray, ΦL, ΦM, ΦN, ΦO, ΦP, ΦQ, ΦR, ΦS, ΦT, ΦU, ΦV, ΦW, ΦX, ΦY, ΦZ, Ψa, Ψb, Ψc, Ψd, Ψe, Ψf, Ψg, Ψh, Ψi, Ψj, Ψk, Ψl, exists_eq_left, exists_eq_left', exists_const, existsSome, Ψm, Ψn, fa_ptr, Addr.add_lit, Addr.add_zero', add_addS, Ψo, Int.toNat_zero, Int.toNat_one, Int.reduceToNat, T.elA_23, T.lay_23, T.szA_23, T.zr_23, Tryd.underlying23, ld_ptr, loadVC, loadN, T.szA_3, T.zr_3, Tryd.underlying3, bin_lss, pick_bool, hP, h13_1, h13_3, h13_30]
            repeat' (first | refine iteB (fun hg => ?_) (fun hg => ?_) | refine iteI (fun hg => ?_) (fun hg => ?_) | ((first | refine ⟨by omega, ?_⟩ | refine ⟨_, Cell.at 0 rfl rfl, ?_⟩ | fail); try simp (maxSteps := 1000000) only [Φa, Φb, Φc, Φd, ev, Φe, Φf, Φg, Φh, Φi, Φj, Φk, Φl, reduceIte, reduceCtorEq, if_true, if_false, Φm, Φn, Φo, Φp, true_and, and_true, false_and, and_false, true_implies, forall_const, false_implies, ne_eq, not_true_eq_false, not_false_eq_true, decide_true, decide_false, Φq, and_self, true_or, or_true, dite_true, dite_false, Φr, Φs, decide_eq_true_eq, decide_eq_false_iff_not, Φt, Φu, Φv, Φw, beq_self_eq_true, Φx, Φy, Φz, ΦA, ΦB, eq_self, VCplan, ΦC, ΦD, VCops, VQops, guardVC, putVC, VC, VQ, ΦE, ΦF, ΦG, ΦH, ΦI, ΦJ, ΦK, List.getElem?_cons_zero, List.getElem?_cons_succ, List.getElem?_nil, List.getElem?_toArray, ΦL, ΦM, ΦN, ΦO, ΦP, ΦQ, ΦR, ΦS, ΦT, ΦU, ΦV, ΦW, ΦX, ΦY, ΦZ, Ψa, Ψb, Ψc, Ψd, Ψe, Ψf, Ψg, Ψh, Ψi, Ψj, Ψk, Ψl, exists_eq_left, exists_eq_left', exists_const, existsSome, Ψm, Ψn, fa_ptr, Addr.add_lit, Addr.add_zero', add_addS, Ψo, Int.toNat_zero, Int.toNat_one, Int.reduceToNat, T.elA_23, T.lay_23, T.szA_23, T.zr_23, Tryd.underlying23, ld_ptr, loadVC, loadN, T.szA_3, T.zr_3, Tryd.underlying3, bin_lss, pick_bool, hP, h13_1, h13_3, h13_30]) | fail)
            all_goals
              refine hK13 () _ (some (bx, .cells #[.int .i64 l, .int .i64 c, .bool o, .int .i64 g] 23 (0, 0)) :: L) _ (by first | exact Less.refl _ | exact Less.drop _ _ | exact Less.drops (Less.drop _ _) | exact Less.drops (Less.drops (Less.drop _ _)) | exact Less.drops (Less.drops (Less.drops (Less.drop _ _))) | exact Less.drops (Less.drops (Less.drops (Less.drops (Less.drop _ _))))) ?_
              try dsimp only
              refine ⟨?_, ?_, ?_, ?_, ?_⟩
              · simp (maxSteps := 1000000) only [Φa, Φb, Φc, Φd, ev, Φe, Φf, Φg, Φh, Φi, Φj, Φk, Φl, reduceIte, reduceCtorEq, if_true, if_false, Φm, Φn, Φo, Φp, true_and, and_true, false_and, and_false, true_implies, forall_const, false_implies, ne_eq, not_true_eq_false, not_false_eq_true, decide_true, decide_false, Φq, and_self, true_or, or_true, dite_true, dite_false, Φr, Φs, decide_eq_true_eq, decide_eq_false_iff_not, Φt, Φu, Φv, Φw, beq_self_eq_true, Φx, Φy, Φz, ΦA, ΦB, eq_self, hP, h13_1, h13_3, h13_30]
                first | done | exact congrArg _ (decide_eq_decide.2 (by omega)) | exact congrArg _ (decide_eq_true (by omega)).symm | exact congrArg _ (decide_eq_false (by omega)).symm
              · simp (maxSteps := 1000000) only [Φa, Φb, Φc, Φd, ev, Φe, Φf, Φg, Φh, Φi, Φj, Φk, Φl, reduceIte, reduceCtorEq, if_true, if_false, Φm, Φn, Φo, Φp, true_and, and_true, false_and, and_false, true_implies, forall_const, false_implies, ne_eq, not_true_eq_false, not_false_eq_true, decide_true, decide_false, Φq, and_self, true_or, or_true, dite_true, dite_false, Φr, Φs, decide_eq_true_eq, decide_eq_false_iff_not, Φt, Φu, Φv, Φw, beq_self_eq_true, Φx, Φy, Φz, ΦA, ΦB, eq_self, hP, h13_1, h13_3, h13_30]
              · simp (maxSteps := 1000000) only [Φa, Φb, Φc, Φd, ev, Φe, Φf, Φg, Φh, Φi, Φj, Φk, Φl, reduceIte, reduceCtorEq, if_true, if_false, Φm, Φn, Φo, Φp, true_and, and_true, false_and, and_false, true_implies, forall_const, false_implies, ne_eq, not_true_eq_false, not_false_eq_true, decide_true, decide_false, Φq, and_self, true_or, or_true, dite_true, dite_false, Φr, Φs, decide_eq_true_eq, decide_eq_false_iff_not, Φt, Φu, Φv, Φw, beq_self_eq_true, Φx, Φy, Φz, ΦA, ΦB, eq_self, hP, h13_1, h13_3, h13_30]
              · rfl
              · trivial
          · intro ss T14 L14 hI
            simp only [h13_1, h13_3] at hI 
            obtain ⟨h14_35, h14_1, h14_3, hL14, hinv⟩ := hI
            replace hL14 := hL14.symm
            subst hL14
            clear h13_1 h13_3 h13_30 T13
            refine RX.live [1, 3, 35] (fun T15 hT15 => ?_)
            simp only [forall_mem_cons', forall_mem_nil', Φa, Φb, Φc, Φd, ev, Φe, Φf, Φg, Φh, Φi, Φj, Φk, Φl, reduceIte, reduceCtorEq, if_true, if_false, Φm, Φn, Φo, Φp, true_and, and_true, false_and, and_false, true_implies, forall_const, false_implies, ne_eq, not_true_eq_false, not_false_eq_true, decide_true, decide_false, Φq, and_self, true_or, or_true, dite_true, dite_false, Φr, Φs, decide_eq_true_eq, decide_eq_false_iff_not, Φt, Φu, Φv, Φw, beq_self_eq_true, Φx, Φy, Φz, ΦA, ΦB, eq_self, hP, h14_35, h14_1, h14_3] at hT15
            obtain ⟨h15_1, h15_3, h15_35⟩ := hT15
            clear h14_35 h14_1 h14_3 T14
            refine RX.join 6 (fun (ss : Unit) T L' => T 41 = .bool (decide (¬ (0 ≤ l ∧ l < 262 ∧ 0 ≤ c ∧ c < 14 ∧ 0 ≤ g ∧ g ≤ 8 ∧ (g = 0 ∨ 80 ≤ l ∧ l ≤ 207 ∧ g ≤ c - 2)))) ∧ L' = some (bx, .cells #[.int .i64 l, .int .i64 c, .bool o, .int .i64 g] 23 (0, 0)) :: L ∧ (True)) (fun K14 hK14 => ?_) ?_
            · simp (maxSteps := 1000000) only [Φa, Φb, Φc, Φd, ev, Φe, Φf, Φg, Φh, Φi, Φj, Φk, Φl, reduceIte, reduceCtorEq, if_true, if_false, Φm, Φn, Φo, Φp, true_and, and_true, false_and, and_false, true_implies, forall_const, false_implies, ne_eq, not_true_eq_false, not_false_eq_true, decide_true, decide_false, Φq, and_self, true_or, or_true, dite_true, dite_false, Φr, Φs, decide_eq_true_eq, decide_eq_false_iff_not, Φt, Φu, Φv, Φw, beq_self_eq_true, Φx, Φy, Φz, ΦA, ΦB, eq_self, VCplan, ΦC, ΦD, VCops, VQops, guardVC, putVC, VC, VQ, ΦE, ΦF, ΦG, ΦH, ΦI, ΦJ, ΦK, List.getElem?_cons_zero, List.getElem?_cons_succ, List.getElem?_nil, List.getElem?_toArray, ΦL, ΦM, ΦN, ΦO, ΦP, ΦQ, ΦR, ΦS, ΦT, ΦU, ΦV, ΦW, ΦX, ΦY, ΦZ, Ψa, Ψb, Ψc, Ψd, Ψe, Ψf, Ψg, Ψh, Ψi, Ψj, Ψk, Ψl, exists_eq_left, exists_eq_left', exists_const, existsSome, Ψm, Ψn, fa_ptr, Addr.add_lit, Addr.add_zero', add_addS, Ψo, Int.toNat_zero, Int.toNat_one, Int.reduceToNat, T.elA_23, T.lay_23, T.szA_23, T.zr_23, Tryd.underlying23, ld_ptr, loadVC, loadN, T.szA_3, T.zr_3, Tryd.underlying3, bin_gtr, pick_bool, hP, h15_1, h15_3, h15_35]
              repeat' (first | refine iteB (fun hg => ?_) (fun hg => ?_) | refine iteI (fun hg => ?_) (fun hg => ?_) | ((first | refine ⟨by omega, ?_⟩ | refine ⟨_, Cell.at 0 rfl rfl, ?_⟩ | fail); try simp (maxSteps := 1000000) only [Φa, Φb, Φc, Φd, ev, Φe, Φf, Φg, Φh, Φi, Φj, Φk, Φl, reduceIte, reduceCtorEq, if_true, if_false, Φm, Φn, Φo, Φp, true_and, and_true, false_and, and_false, true_implies, forall_const, false_implies, ne_eq, not_true_eq_false, not_false_eq_true, decide_true, decide_false, Φq, and_self, true_or, or_true, dite_true, dite_false, Φr, Φs, decide_eq_true_eq, decide_eq_false_iff_not, Φt, Φu, Φv, Φw, beq_self_eq_true, Φx, Φy, Φz, ΦA, ΦB, eq_self, VCplan, ΦC, ΦD, VCops, VQops, guardVC, putVC, VC, VQ, ΦE, ΦF, ΦG, ΦH, ΦI, ΦJ, ΦK, List.getElem?_cons_zero, List.getElem?_cons_succ, List.getElem?_nil, List.getElem?_toArray, ΦL, ΦM, ΦN, ΦO, ΦP, ΦQ, ΦR, ΦS, ΦT, ΦU, ΦV, ΦW, ΦX, ΦY, ΦZ, Ψa, Ψb, Ψc, Ψd, Ψe, Ψf, Ψg, Ψh, Ψi, Ψj, Ψk, Ψl, exists_eq_left, exists_eq_left', exists_const, existsSome, Ψm, Ψn, fa_ptr, Addr.add_lit, Addr.add_zero', add_addS, Ψo, Int.toNat_zero, Int.toNat_one, Int.reduceToNat, T.elA_23, T.lay_23, T.szA_23, T.zr_23, Tryd.underlying23, ld_ptr, loadVC, loadN, T.szA_3, T.zr_3, Tryd.underlying3, bin_gtr, pick_bool, hP, h15_1, h15_3, h15_35]) | fail)
              all_goals
                refine hK14 () _ (some (bx, .cells #[.int .i64 l, .int .i64 c, .bool o, .int .i64 g] 23 (0, 0)) :: L) _ (by first | exact Less.refl _ | exact Less.drop _ _ | exact Less.drops (Less.drop _ _) | exact Less.drops (Less.drops (Less.drop _ _)) | exact Less.drops (Less.drops (Less.drops (Less.drop _ _))) | exact Less.drops (Less.drops (Less.drops (Less.drops (Less.drop _ _))))) ?_
                try dsimp only
                refine ⟨?_, ?_, ?_⟩
                · simp (maxSteps := 1000000) only [Φa, Φb, Φc, Φd, ev, Φe, Φf, Φg, Φh, Φi, Φj, Φk, Φl, reduceIte, reduceCtorEq, if_true, if_false, Φm, Φn, Φo, Φp, true_and, and_true, false_and, and_false, true_implies, forall_const, false_implies, ne_eq, not_true_eq_false, not_false_eq_true, decide_true, decide_false, Φq, and_self, true_or, or_true, dite_true, dite_false, Φr, Φs, decide_eq_true_eq, decide_eq_false_iff_not, Φt, Φu, Φv, Φw, beq_self_eq_true, Φx, Φy, Φz, ΦA, ΦB, eq_self, hP, h15_1, h15_3, h15_35]
                  first | done | exact congrArg _ (decide_eq_decide.2 (by omega)) | exact congrArg _ (decide_eq_true (by omega)).symm | exact congrArg _ (decide_eq_false (by omega)).symm
                · rfl
                · trivial
            · intro ss T16 L16 hI
              obtain ⟨h16_41, hL16, hinv⟩ := hI
              replace hL16 := hL16.symm
              subst hL16
              clear h15_1 h15_3 h15_35 T15
              refine RX.done ?_
              simp (maxSteps := 1000000) only [Φa, Φb, Φc, Φd, ev, Φe, Φf, Φg, Φh, Φi, Φj, Φk, Φl, reduceIte, reduceCtorEq, if_true, if_false, Φm, Φn, Φo, Φp, true_and, and_true, false_and, and_false, true_implies, forall_const, false_implies, ne_eq, not_true_eq_false, not_false_eq_true, decide_true, decide_false, Φq, and_self, true_or, or_true, dite_true, dite_false, Φr, Φs, decide_eq_true_eq, decide_eq_false_iff_not, Φt, Φu, Φv, Φw, beq_self_eq_true, Φx, Φy, Φz, ΦA, ΦB, eq_self, VCplan, ΦC, ΦD, VCops, VQops, guardVC, putVC, VC, VQ, ΦE, ΦF, ΦG, ΦH, ΦI, ΦJ, ΦK, List.getElem?_cons_zero, List.getElem?_cons_succ, List.getElem?_nil, List.getElem?_toArray, ΦL, ΦM, ΦN, ΦO, ΦP, ΦQ, ΦR, ΦS, ΦT, ΦU, ΦV, ΦW, ΦX, ΦY, ΦZ, Ψa, Ψb, Ψc, Ψd, Ψe, Ψf, Ψg, Ψh, Ψi, Ψj, Ψk, Ψl, exists_eq_left, exists_eq_left', exists_const, existsSome, Ψm, Ψn, hP, h16_41]
              refine hK9 _ _ ?_
              try clear hK9 K9
              refine SX.cond_k fun X15 Y15 hX15 hY15 => ?_
              simp (maxSteps := 1000000) only [Φa, Φb, Φc, Φd, ev, Φe, Φf, Φg, Φh, Φi, Φj, Φk, Φl, reduceIte, reduceCtorEq, if_true, if_false, Φm, Φn, Φo, Φp, true_and, and_true, false_and, and_false, true_implies, forall_const, false_implies, ne_eq, not_true_eq_false, not_false_eq_true, decide_true, decide_false, Φq, and_self, true_or, or_true, dite_true, dite_false, Φr, Φs, decide_eq_true_eq, decide_eq_false_iff_not, Φt, Φu, Φv, Φw, beq_self_eq_true, Φx, Φy, Φz, ΦA, ΦB, eq_self, hP, h16_41, condVC]
              refine ⟨fun hc41 => hX15 ?_, fun hc41 => hY15 ?_⟩
              · clear hX15 hY15 X15 Y15
                refine SX.seq_k fun K16 hK16 => ?_
                refine SX.region ?_
                simp (maxSteps := 1000000) only [Φa, Φb, Φc, Φd, ev, Φe, Φf, Φg, Φh, Φi, Φj, Φk, Φl, reduceIte, reduceCtorEq, if_true, if_false, Φm, Φn, Φo, Φp, true_and, and_true, false_and, and_false, true_implies, forall_const, false_implies, ne_eq, not_true_eq_false, not_false_eq_true, decide_true, decide_false, Φq, and_self, true_or, or_true, dite_true, dite_false, Φr, Φs, decide_eq_true_eq, decide_eq_false_iff_not, Φt, Φu, Φv, Φw, beq_self_eq_true, Φx, Φy, Φz, ΦA, ΦB, eq_self, VCplan, ΦC, ΦD, VCops, VQops, guardVC, putVC, VC, VQ, ΦE, ΦF, ΦG, ΦH, ΦI, ΦJ, ΦK, List.getElem?_cons_zero, List.getElem?_cons_succ, List.getElem?_nil, List.getElem?_toArray, ΦL, ΦM, ΦN, ΦO, ΦP, ΦQ, ΦR, ΦS, ΦT, ΦU, ΦV, ΦW, ΦX, ΦY, ΦZ, Ψa, Ψb, Ψc, Ψd, Ψe, Ψf, Ψg, Ψh, Ψi, Ψj, Ψk, Ψl, exists_eq_left, exists_eq_left', exists_const, existsSome, Ψm, Ψn, hP, h16_41]
                refine hK16 _ _ ?_
                try clear hK16 K16
                refine SX.ret ?_
                simp only [Φe, Φf, Φg, Φh, Φi, Φj, Φk, if_true, if_false, reduceIte, retQ_ret]
                try simp only [res0, res1, res2, res3, Φa, Φb, Φc, Φd, ev, Φe, Φf, Φg, Φh, Φi, Φj, Φk, Φl, reduceIte, reduceCtorEq, if_true, if_false, Φm, Φn, Φo, Φp, true_and, and_true, false_and, and_false, true_implies, forall_const, false_implies, ne_eq, not_true_eq_false, not_false_eq_true, decide_true, decide_false, Φq, and_self, true_or, or_true, dite_true, dite_false, Φr, Φs, decide_eq_true_eq, decide_eq_false_iff_not, Φt, Φu, Φv, Φw, beq_self_eq_true, Φx, Φy, Φz, ΦA, ΦB, eq_self, hP, h16_41]
                refine ⟨_, L, (by first | exact Less.refl _ | exact Less.drop _ _ | exact Less.drops (Less.drop _ _) | exact Less.drops (Less.drops (Less.drop _ _)) | exact Less.drops (Less.drops (Less.drops (Less.drop _ _))) | exact Less.drops (Less.drops (Less.drops (Less.drops (Less.drop _ _))))), rfl, ?_, rfl⟩
                rw [chk, okB, decide_eq_false hc41]; rfl
              · clear hX15 hY15 X15 Y15
                refine SX.skip ?_
                simp only [Φe, Φf, Φg, Φh, Φi, Φj, Φk, if_true, if_false, reduceIte]
                refine hK8 _ _ ?_
                try clear hK8 K8
                refine SX.seq_k fun K17 hK17 => ?_
                refine SX.region ?_
                simp (maxSteps := 1000000) only [Φa, Φb, Φc, Φd, ev, Φe, Φf, Φg, Φh, Φi, Φj, Φk, Φl, reduceIte, reduceCtorEq, if_true, if_false, Φm, Φn, Φo, Φp, true_and, and_true, false_and, and_false, true_implies, forall_const, false_implies, ne_eq, not_true_eq_false, not_false_eq_true, decide_true, decide_false, Φq, and_self, true_or, or_true, dite_true, dite_false, Φr, Φs, decide_eq_true_eq, decide_eq_false_iff_not, Φt, Φu, Φv, Φw, beq_self_eq_true, Φx, Φy, Φz, ΦA, ΦB, eq_self, VCplan, ΦC, ΦD, VCops, VQops, guardVC, putVC, VC, VQ, ΦE, ΦF, ΦG, ΦH, ΦI, ΦJ, ΦK, List.getElem?_cons_zero, List.getElem?_cons_succ, List.getElem?_nil, List.getElem?_toArray, ΦL, ΦM, ΦN, ΦO, ΦP, ΦQ, ΦR, ΦS, ΦT, ΦU, ΦV, ΦW, ΦX, ΦY, ΦZ, Ψa, Ψb, Ψc, Ψd, Ψe, Ψf, Ψg, Ψh, Ψi, Ψj, Ψk, Ψl, exists_eq_left, exists_eq_left', exists_const, existsSome, Ψm, Ψn, hP, h16_41]
                refine hK17 _ _ ?_
                try clear hK17 K17
                refine SX.ret ?_
                simp only [Φe, Φf, Φg, Φh, Φi, Φj, Φk, if_true, if_false, reduceIte, retQ_ret]
                try simp only [res0, res1, res2, res3, Φa, Φb, Φc, Φd, ev, Φe, Φf, Φg, Φh, Φi, Φj, Φk, Φl, reduceIte, reduceCtorEq, if_true, if_false, Φm, Φn, Φo, Φp, true_and, and_true, false_and, and_false, true_implies, forall_const, false_implies, ne_eq, not_true_eq_false, not_false_eq_true, decide_true, decide_false, Φq, and_self, true_or, or_true, dite_true, dite_false, Φr, Φs, decide_eq_true_eq, decide_eq_false_iff_not, Φt, Φu, Φv, Φw, beq_self_eq_true, Φx, Φy, Φz, ΦA, ΦB, eq_self, hP, h16_41]
                refine ⟨_, L, (by first | exact Less.refl _ | exact Less.drop _ _ | exact Less.drops (Less.drop _ _) | exact Less.drops (Less.drops (Less.drop _ _)) | exact Less.drops (Less.drops (Less.drops (Less.drop _ _))) | exact Less.drops (Less.drops (Less.drops (Less.drops (Less.drop _ _))))), rfl, ?_, rfl⟩
                rw [chk, okB, decide_eq_true (by simpa using hc41)]; rfl
set_option maxHeartbeats 1000000 in
set_option maxRecDepth 100000 in
theorem wants_spec {Γ : Ctx} (hP : Γ.P = Tryd.prog) {L : Hp} {l c g : Int} {o : Bool} (S : SH Γ) :
    SCall Γ 20 #[(.agg #[.int .i64 l, .int .i64 c, .bool o, .int .i64 g])] L (fun v L' => v = .bool (wB l c o g) ∧ L' = L) := by
  refine SCall.enter (n := 26) (res1 2) (hP ▸ Tryd.func20) rfl rfl (by simp) (res1_ok rfl) ?_
  refine SX.seq_k fun K1 hK1 => ?_
  refine SX.region ?_
  simp (maxSteps := 1000000) only [Φa, Φb, Φc, Φd, ev, Φe, Φf, Φg, Φh, Φi, Φj, Φk, Φl, reduceIte, reduceCtorEq, if_true, if_false, Φm, Φn, Φo, Φp, true_and, and_true, false_and, and_false, true_implies, forall_const, false_implies, ne_eq, not_true_eq_false, not_false_eq_true, decide_true, decide_false, Φq, and_self, true_or, or_true, dite_true, dite_false, Φr, Φs, decide_eq_true_eq, decide_eq_false_iff_not, Φt, Φu, Φv, Φw, beq_self_eq_true, Φx, Φy, Φz, ΦA, ΦB, eq_self, VCplan, ΦC, ΦD, VCops, VQops, guardVC, putVC, VC, VQ, ΦE, ΦF, ΦG, ΦH, ΦI, ΦJ, ΦK, List.getElem?_cons_zero, List.getElem?_cons_succ, List.getElem?_nil, List.getElem?_toArray, ΦL, ΦM, ΦN, ΦO, ΦP, ΦQ, ΦR, ΦS, ΦT, ΦU, ΦV, ΦW, ΦX, ΦY, ΦZ, Ψa, Ψb, Ψc, Ψd, Ψe, Ψf, Ψg, Ψh, Ψi, Ψj, Ψk, Ψl, exists_eq_left, exists_eq_left', exists_const, existsSome, Ψm, Ψn, cells_int, cells_bool, cells_string, cells_pointer, cells_slice, cells_agg, oneB_nil, oneB_cons, one_int, one_bool, one_string, one_pointer, one_slice, one_map, one_func, one_nilFunc, one_nilIface, one_iface, cells_map, cells_func, cells_nilFunc, cells_nilIface, cells_iface, T.elA_23, T.lay_23, T.szA_23, T.zr_23, Tryd.underlying23, hP]
  intro bx
  refine hK1 _ _ ?_
  try clear hK1 K1
  refine SX.seq_k fun K2 hK2 => ?_
  refine SX.quiet_x (hP ▸ T.mixed) (by kernel_rfl) ?_
  refine QX.live [1] (fun T1 hT1 => ?_)
  simp only [forall_mem_cons', forall_mem_nil', Φa, Φb, Φc, Φd, ev, Φe, Φf, Φg, Φh, Φi, Φj, Φk, Φl, reduceIte, reduceCtorEq, if_true, if_false, Φm, Φn, Φo, Φp, true_and, and_true, false_and, and_false, true_implies, forall_const, false_implies, ne_eq, not_true_eq_false, not_false_eq_true, decide_true, decide_false, Φq, and_self, true_or, or_true, dite_true, dite_false, Φr, Φs, decide_eq_true_eq, decide_eq_false_iff_not, Φt, Φu, Φv, Φw, beq_self_eq_true, Φx, Φy, Φz, ΦA, ΦB, eq_self, hP] at hT1
  have h1_1 := hT1; clear hT1
  refine QX.join 7 (fun (ss : Unit) T L' => T 9 = .bool (okB l c g && o) ∧ T 1 = T1 1 ∧ L' = some (bx, .cells #[.int .i64 l, .int .i64 c, .bool o, .int .i64 g] 23 (0, 0)) :: L ∧ (True)) (fun K3 hK3 => ?_) ?_
  · simp only [h1_1] at hK3
    simp (maxSteps := 1000000) only [Φa, Φb, Φc, Φd, ev, Φe, Φf, Φg, Φh, Φi, Φj, Φk, Φl, reduceIte, reduceCtorEq, if_true, if_false, Φm, Φn, Φo, Φp, true_and, and_true, false_and, and_false, true_implies, forall_const, false_implies, ne_eq, not_true_eq_false, not_false_eq_true, decide_true, decide_false, Φq, and_self, true_or, or_true, dite_true, dite_false, Φr, Φs, decide_eq_true_eq, decide_eq_false_iff_not, Φt, Φu, Φv, Φw, beq_self_eq_true, Φx, Φy, Φz, ΦA, ΦB, eq_self, VCplan, ΦC, ΦD, VCops, VQops, guardVC, putVC, VC, VQ, ΦE, ΦF, ΦG, ΦH, ΦI, ΦJ, ΦK, List.getElem?_cons_zero, List.getElem?_cons_succ, List.getElem?_nil, List.getElem?_toArray, ΦL, ΦM, ΦN, ΦO, ΦP, ΦQ, ΦR, ΦS, ΦT, ΦU, ΦV, ΦW, ΦX, ΦY, ΦZ, Ψa, Ψb, Ψc, Ψd, Ψe, Ψf, Ψg, Ψh, Ψi, Ψj, Ψk, Ψl, exists_eq_left, exists_eq_left', exists_const, existsSome, Ψm, Ψn, ld_ptr, loadVC, loadN, Addr.add_lit, Addr.add_zero', add_addS, Ψo, Int.toNat_zero, Int.toNat_one, Int.reduceToNat, T.elA_23, T.lay_23, T.szA_23, T.zr_23, Tryd.underlying23, qcall_f, call_f, len_slice, len_str, cap_slice, min_int, max_int, T.callable_9, bin_eql, bin_eqlb, bin_eqls, bin_eqla, T.szA_26, T.zr_26, Tryd.underlying26, fa_ptr, T.szA_4, T.zr_4, Tryd.underlying4, pick_bool, hP, h1_1, chk_eq, any1]
    repeat' (first | refine iteB (fun hg => ?_) (fun hg => ?_) | refine iteI (fun hg => ?_) (fun hg => ?_) | ((first | refine ⟨_, Check_spec hP S, ?_⟩ | refine ⟨_, within_spec (bs := [(80, 207)]) (a := ⟨0, 0, none⟩) hP S (by decide), ?_⟩ | refine ⟨by omega, ?_⟩ | refine ⟨_, Cell.at 0 rfl rfl, _, Cell.at 0 rfl rfl, _, Cell.at 0 rfl rfl, _, Cell.at 0 rfl rfl, ?_⟩ | refine ⟨_, Cell.at 0 rfl rfl, ?_⟩ | fail); try simp (maxSteps := 1000000) only [Φa, Φb, Φc, Φd, ev, Φe, Φf, Φg, Φh, Φi, Φj, Φk, Φl, reduceIte, reduceCtorEq, if_true, if_false, Φm, Φn, Φo, Φp, true_and, and_true, false_and, and_false, true_implies, forall_const, false_implies, ne_eq, not_true_eq_false, not_false_eq_true, decide_true, decide_false, Φq, and_self, true_or, or_true, dite_true, dite_false, Φr, Φs, decide_eq_true_eq, decide_eq_false_iff_not, Φt, Φu, Φv, Φw, beq_self_eq_true, Φx, Φy, Φz, ΦA, ΦB, eq_self, VCplan, ΦC, ΦD, VCops, VQops, guardVC, putVC, VC, VQ, ΦE, ΦF, ΦG, ΦH, ΦI, ΦJ, ΦK, List.getElem?_cons_zero, List.getElem?_cons_succ, List.getElem?_nil, List.getElem?_toArray, ΦL, ΦM, ΦN, ΦO, ΦP, ΦQ, ΦR, ΦS, ΦT, ΦU, ΦV, ΦW, ΦX, ΦY, ΦZ, Ψa, Ψb, Ψc, Ψd, Ψe, Ψf, Ψg, Ψh, Ψi, Ψj, Ψk, Ψl, exists_eq_left, exists_eq_left', exists_const, existsSome, Ψm, Ψn, ld_ptr, loadVC, loadN, Addr.add_lit, Addr.add_zero', add_addS, Ψo, Int.toNat_zero, Int.toNat_one, Int.reduceToNat, T.elA_23, T.lay_23, T.szA_23, T.zr_23, Tryd.underlying23, qcall_f, call_f, len_slice, len_str, cap_slice, min_int, max_int, T.callable_9, bin_eql, bin_eqlb, bin_eqls, bin_eqla, T.szA_26, T.zr_26, Tryd.underlying26, fa_ptr, T.szA_4, T.zr_4, Tryd.underlying4, pick_bool, hP, h1_1, chk_eq, any1]) | fail)
    all_goals
      refine hK3 () _ (some (bx, .cells #[.int .i64 l, .int .i64 c, .bool o, .int .i64 g] 23 (0, 0)) :: L) _ (by rfl) ?_
      try dsimp only
      refine ⟨?_, ?_, ?_, ?_⟩
      · simp (maxSteps := 1000000) only [Φa, Φb, Φc, Φd, ev, Φe, Φf, Φg, Φh, Φi, Φj, Φk, Φl, reduceIte, reduceCtorEq, if_true, if_false, Φm, Φn, Φo, Φp, true_and, and_true, false_and, and_false, true_implies, forall_const, false_implies, ne_eq, not_true_eq_false, not_false_eq_true, decide_true, decide_false, Φq, and_self, true_or, or_true, dite_true, dite_false, Φr, Φs, decide_eq_true_eq, decide_eq_false_iff_not, Φt, Φu, Φv, Φw, beq_self_eq_true, Φx, Φy, Φz, ΦA, ΦB, eq_self, hP, h1_1]
        first | done | rfl | (rw [hg]; rfl) | simp [hg]
      · simp (maxSteps := 1000000) only [Φa, Φb, Φc, Φd, ev, Φe, Φf, Φg, Φh, Φi, Φj, Φk, Φl, reduceIte, reduceCtorEq, if_true, if_false, Φm, Φn, Φo, Φp, true_and, and_true, false_and, and_false, true_implies, forall_const, false_implies, ne_eq, not_true_eq_false, not_false_eq_true, decide_true, decide_false, Φq, and_self, true_or, or_true, dite_true, dite_false, Φr, Φs, decide_eq_true_eq, decide_eq_false_iff_not, Φt, Φu, Φv, Φw, beq_self_eq_true, Φx, Φy, Φz, ΦA, ΦB, eq_self, hP, h1_1]
      · rfl
      · trivial
  · intro ss T2 L2 hE2 hI
    simp only [h1_1] at hI 
    obtain ⟨h2_9, h2_1, hL2, hinv⟩ := hI
    replace hL2 := hL2.symm
    subst hL2
    clear h1_1 T1
    clear hE2
    refine QX.live [1, 9] (fun T3 hT3 => ?_)
    simp only [forall_mem_cons', forall_mem_nil', Φa, Φb, Φc, Φd, ev, Φe, Φf, Φg, Φh, Φi, Φj, Φk, Φl, reduceIte, reduceCtorEq, if_true, if_false, Φm, Φn, Φo, Φp, true_and, and_true, false_and, and_false, true_implies, forall_const, false_implies, ne_eq, not_true_eq_false, not_false_eq_true, decide_true, decide_false, Φq, and_self, true_or, or_true, dite_true, dite_false, Φr, Φs, decide_eq_true_eq, decide_eq_false_iff_not, Φt, Φu, Φv, Φw, beq_self_eq_true, Φx, Φy, Φz, ΦA, ΦB, eq_self, hP, h2_9, h2_1] at hT3
    obtain ⟨h3_1, h3_9⟩ := hT3
    clear h2_9 h2_1 T2
    refine QX.join 6 (fun (ss : Unit) T L' => T 15 = .bool (okB l c g && o && decide (80 ≤ l ∧ l ≤ 207)) ∧ T 1 = T3 1 ∧ L' = some (bx, .cells #[.int .i64 l, .int .i64 c, .bool o, .int .i64 g] 23 (0, 0)) :: L ∧ (True)) (fun K4 hK4 => ?_) ?_
    · simp only [h3_1] at hK4
      simp (maxSteps := 1000000) only [Φa, Φb, Φc, Φd, ev, Φe, Φf, Φg, Φh, Φi, Φj, Φk, Φl, reduceIte, reduceCtorEq, if_true, if_false, Φm, Φn, Φo, Φp, true_and, and_true, false_and, and_false, true_implies, forall_const, false_implies, ne_eq, not_true_eq_false, not_false_eq_true, decide_true, decide_false, Φq, and_self, true_or, or_true, dite_true, dite_false, Φr, Φs, decide_eq_true_eq, decide_eq_false_iff_not, Φt, Φu, Φv, Φw, beq_self_eq_true, Φx, Φy, Φz, ΦA, ΦB, eq_self, VCplan, ΦC, ΦD, VCops, VQops, guardVC, putVC, VC, VQ, ΦE, ΦF, ΦG, ΦH, ΦI, ΦJ, ΦK, List.getElem?_cons_zero, List.getElem?_cons_succ, List.getElem?_nil, List.getElem?_toArray, ΦL, ΦM, ΦN, ΦO, ΦP, ΦQ, ΦR, ΦS, ΦT, ΦU, ΦV, ΦW, ΦX, ΦY, ΦZ, Ψa, Ψb, Ψc, Ψd, Ψe, Ψf, Ψg, Ψh, Ψi, Ψj, Ψk, Ψl, exists_eq_left, exists_eq_left', exists_const, existsSome, Ψm, Ψn, fa_ptr, Addr.add_lit, Addr.add_zero', add_addS, Ψo, Int.toNat_zero, Int.toNat_one, Int.reduceToNat, T.elA_23, T.lay_23, T.szA_23, T.zr_23, Tryd.underlying23, ld_ptr, loadVC, loadN, T.szA_3, T.zr_3, Tryd.underlying3, sliceVC, optI, T.elA_44, T.lay_44, T.szA_44, T.zr_44, Tryd.underlying44, qcall_f, call_f, len_slice, len_str, cap_slice, min_int, max_int, T.elS_42, T.szA_42, T.zr_42, Tryd.underlying42, T.callable_19, pick_bool, hP, h3_1, h3_9, chk_eq, any1]
      repeat' (first | refine iteB (fun hg => ?_) (fun hg => ?_) | refine iteI (fun hg => ?_) (fun hg => ?_) | ((first | refine ⟨_, Check_spec hP S, ?_⟩ | refine ⟨_, within_spec (bs := [(80, 207)]) (a := ⟨0, 0, none⟩) hP S (by decide), ?_⟩ | refine ⟨by omega, ?_⟩ | refine ⟨_, Cell.at 0 rfl rfl, ?_⟩ | fail); try simp (maxSteps := 1000000) only [Φa, Φb, Φc, Φd, ev, Φe, Φf, Φg, Φh, Φi, Φj, Φk, Φl, reduceIte, reduceCtorEq, if_true, if_false, Φm, Φn, Φo, Φp, true_and, and_true, false_and, and_false, true_implies, forall_const, false_implies, ne_eq, not_true_eq_false, not_false_eq_true, decide_true, decide_false, Φq, and_self, true_or, or_true, dite_true, dite_false, Φr, Φs, decide_eq_true_eq, decide_eq_false_iff_not, Φt, Φu, Φv, Φw, beq_self_eq_true, Φx, Φy, Φz, ΦA, ΦB, eq_self, VCplan, ΦC, ΦD, VCops, VQops, guardVC, putVC, VC, VQ, ΦE, ΦF, ΦG, ΦH, ΦI, ΦJ, ΦK, List.getElem?_cons_zero, List.getElem?_cons_succ, List.getElem?_nil, List.getElem?_toArray, ΦL, ΦM, ΦN, ΦO, ΦP, ΦQ, ΦR, ΦS, ΦT, ΦU, ΦV, ΦW, ΦX, ΦY, ΦZ, Ψa, Ψb, Ψc, Ψd, Ψe, Ψf, Ψg, Ψh, Ψi, Ψj, Ψk, Ψl, exists_eq_left, exists_eq_left', exists_const, existsSome, Ψm, Ψn, fa_ptr, Addr.add_lit, Addr.add_zero', add_addS, Ψo, Int.toNat_zero, Int.toNat_one, Int.reduceToNat, T.elA_23, T.lay_23, T.szA_23, T.zr_23, Tryd.underlying23, ld_ptr, loadVC, loadN, T.szA_3, T.zr_3, Tryd.underlying3, sliceVC, optI, T.elA_44, T.lay_44, T.szA_44, T.zr_44, Tryd.underlying44, qcall_f, call_f, len_slice, len_str, cap_slice, min_int, max_int, T.elS_42, T.szA_42, T.zr_42, Tryd.underlying42, T.callable_19, pick_bool, hP, h3_1, h3_9, chk_eq, any1]) | fail)
      all_goals
        refine hK4 () _ (some (bx, .cells #[.int .i64 l, .int .i64 c, .bool o, .int .i64 g] 23 (0, 0)) :: L) _ (by rfl) ?_
        try dsimp only
        refine ⟨?_, ?_, ?_, ?_⟩
        · simp (maxSteps := 1000000) only [Φa, Φb, Φc, Φd, ev, Φe, Φf, Φg, Φh, Φi, Φj, Φk, Φl, reduceIte, reduceCtorEq, if_true, if_false, Φm, Φn, Φo, Φp, true_and, and_true, false_and, and_false, true_implies, forall_const, false_implies, ne_eq, not_true_eq_false, not_false_eq_true, decide_true, decide_false, Φq, and_self, true_or, or_true, dite_true, dite_false, Φr, Φs, decide_eq_true_eq, decide_eq_false_iff_not, Φt, Φu, Φv, Φw, beq_self_eq_true, Φx, Φy, Φz, ΦA, ΦB, eq_self, hP, h3_1, h3_9]
          first | done | rfl | (rw [hg]; rfl) | simp [hg]
        · simp (maxSteps := 1000000) only [Φa, Φb, Φc, Φd, ev, Φe, Φf, Φg, Φh, Φi, Φj, Φk, Φl, reduceIte, reduceCtorEq, if_true, if_false, Φm, Φn, Φo, Φp, true_and, and_true, false_and, and_false, true_implies, forall_const, false_implies, ne_eq, not_true_eq_false, not_false_eq_true, decide_true, decide_false, Φq, and_self, true_or, or_true, dite_true, dite_false, Φr, Φs, decide_eq_true_eq, decide_eq_false_iff_not, Φt, Φu, Φv, Φw, beq_self_eq_true, Φx, Φy, Φz, ΦA, ΦB, eq_self, hP, h3_1, h3_9]
        · rfl
        · trivial
    · intro ss T4 L4 hE4 hI
      simp only [h3_1] at hI 
      obtain ⟨h4_15, h4_1, hL4, hinv⟩ := hI
      replace hL4 := hL4.symm
      subst hL4
      clear h3_1 h3_9 T3
      clear hE4
      refine QX.live [1, 15] (fun T5 hT5 => ?_)
      simp only [forall_mem_cons', forall_mem_nil', Φa, Φb, Φc, Φd, ev, Φe, Φf, Φg, Φh, Φi, Φj, Φk, Φl, reduceIte, reduceCtorEq, if_true, if_false, Φm, Φn, Φo, Φp, true_and, and_true, false_and, and_false, true_implies, forall_const, false_implies, ne_eq, not_true_eq_false, not_false_eq_true, decide_true, decide_false, Φq, and_self, true_or, or_true, dite_true, dite_false, Φr, Φs, decide_eq_true_eq, decide_eq_false_iff_not, Φt, Φu, Φv, Φw, beq_self_eq_true, Φx, Φy, Φz, ΦA, ΦB, eq_self, hP, h4_15, h4_1] at hT5
      obtain ⟨h5_1, h5_15⟩ := hT5
      clear h4_15 h4_1 T4
      refine QX.join 5 (fun (ss : Unit) T L' => T 20 = .bool (okB l c g && o && decide (80 ≤ l ∧ l ≤ 207) && decide (2 ≤ c)) ∧ T 1 = T5 1 ∧ L' = some (bx, .cells #[.int .i64 l, .int .i64 c, .bool o, .int .i64 g] 23 (0, 0)) :: L ∧ (True)) (fun K5 hK5 => ?_) ?_
      · simp only [h5_1] at hK5
        simp (maxSteps := 1000000) only [Φa, Φb, Φc, Φd, ev, Φe, Φf, Φg, Φh, Φi, Φj, Φk, Φl, reduceIte, reduceCtorEq, if_true, if_false, Φm, Φn, Φo, Φp, true_and, and_true, false_and, and_false, true_implies, forall_const, false_implies, ne_eq, not_true_eq_false, not_false_eq_true, decide_true, decide_false, Φq, and_self, true_or, or_true, dite_true, dite_false, Φr, Φs, decide_eq_true_eq, decide_eq_false_iff_not, Φt, Φu, Φv, Φw, beq_self_eq_true, Φx, Φy, Φz, ΦA, ΦB, eq_self, VCplan, ΦC, ΦD, VCops, VQops, guardVC, putVC, VC, VQ, ΦE, ΦF, ΦG, ΦH, ΦI, ΦJ, ΦK, List.getElem?_cons_zero, List.getElem?_cons_succ, List.getElem?_nil, List.getElem?_toArray, ΦL, ΦM, ΦN, ΦO, ΦP, ΦQ, ΦR, ΦS, ΦT, ΦU, ΦV, ΦW, ΦX, ΦY, ΦZ, Ψa, Ψb, Ψc, Ψd, Ψe, Ψf, Ψg, Ψh, Ψi, Ψj, Ψk, Ψl, exists_eq_left, exists_eq_left', exists_const, existsSome, Ψm, Ψn, fa_ptr, Addr.add_lit, Addr.add_zero', add_addS, Ψo, Int.toNat_zero, Int.toNat_one, Int.reduceToNat, T.elA_23, T.lay_23, T.szA_23, T.zr_23, Tryd.underlying23, ld_ptr, loadVC, loadN, T.szA_3, T.zr_3, Tryd.underlying3, bin_geq, pick_bool, hP, h5_1, h5_15, chk_eq, any1]
        repeat' (first | refine iteB (fun hg => ?_) (fun hg => ?_) | refine iteI (fun hg => ?_) (fun hg => ?_) | ((first | refine ⟨_, Check_spec hP S, ?_⟩ | refine ⟨_, within_spec (bs := [(80, 207)]) (a := ⟨0, 0, none⟩) hP S (by decide), ?_⟩ | refine ⟨by omega, ?_⟩ | refine ⟨_, Cell.at 0 rfl rfl, ?_⟩ | fail); try simp (maxSteps := 1000000) only [Φa, Φb, Φc, Φd, ev, Φe, Φf, Φg, Φh, Φi, Φj, Φk, Φl, reduceIte, reduceCtorEq, if_true, if_false, Φm, Φn, Φo, Φp, true_and, and_true, false_and, and_false, true_implies, forall_const, false_implies, ne_eq, not_true_eq_false, not_false_eq_true, decide_true, decide_false, Φq, and_self, true_or, or_true, dite_true, dite_false, Φr, Φs, decide_eq_true_eq, decide_eq_false_iff_not, Φt, Φu, Φv, Φw, beq_self_eq_true, Φx, Φy, Φz, ΦA, ΦB, eq_self, VCplan, ΦC, ΦD, VCops, VQops, guardVC, putVC, VC, VQ, ΦE, ΦF, ΦG, ΦH, ΦI, ΦJ, ΦK, List.getElem?_cons_zero, List.getElem?_cons_succ, List.getElem?_nil, List.getElem?_toArray, ΦL, ΦM, ΦN, ΦO, ΦP, ΦQ, ΦR, ΦS, ΦT, ΦU, ΦV, ΦW, ΦX, ΦY, ΦZ, Ψa, Ψb, Ψc, Ψd, Ψe, Ψf, Ψg, Ψh, Ψi, Ψj, Ψk, Ψl, exists_eq_left, exists_eq_left', exists_const, existsSome, Ψm, Ψn, fa_ptr, Addr.add_lit, Addr.add_zero', add_addS, Ψo, Int.toNat_zero, Int.toNat_one, Int.reduceToNat, T.elA_23, T.lay_23, T.szA_23, T.zr_23, Tryd.underlying23, ld_ptr, loadVC, loadN, T.szA_3, T.zr_3, Tryd.underlying3, bin_geq, pick_bool, hP, h5_1, h5_15, chk_eq, any1]) | fail)
        all_goals
          refine hK5 () _ (some (bx, .cells #[.int .i64 l, .int .i64 c, .bool o, .int .i64 g] 23 (0, 0)) :: L) _ (by rfl) ?_
          try dsimp only
          refine ⟨?_, ?_, ?_, ?_⟩
          · simp (maxSteps := 1000000) only [Φa, Φb, Φc, Φd, ev, Φe, Φf, Φg, Φh, Φi, Φj, Φk, Φl, reduceIte, reduceCtorEq, if_true, if_false, Φm, Φn, Φo, Φp, true_and, and_true, false_and, and_false, true_implies, forall_const, false_implies, ne_eq, not_true_eq_false, not_false_eq_true, decide_true, decide_false, Φq, and_self, true_or, or_true, dite_true, dite_false, Φr, Φs, decide_eq_true_eq, decide_eq_false_iff_not, Φt, Φu, Φv, Φw, beq_self_eq_true, Φx, Φy, Φz, ΦA, ΦB, eq_self, hP, h5_1, h5_15]
            first | done | rfl | (rw [hg]; rfl) | simp [hg]
          · simp (maxSteps := 1000000) only [Φa, Φb, Φc, Φd, ev, Φe, Φf, Φg, Φh, Φi, Φj, Φk, Φl, reduceIte, reduceCtorEq, if_true, if_false, Φm, Φn, Φo, Φp, true_and, and_true, false_and, and_false, true_implies, forall_const, false_implies, ne_eq, not_true_eq_false, not_false_eq_true, decide_true, decide_false, Φq, and_self, true_or, or_true, dite_true, dite_false, Φr, Φs, decide_eq_true_eq, decide_eq_false_iff_not, Φt, Φu, Φv, Φw, beq_self_eq_true, Φx, Φy, Φz, ΦA, ΦB, eq_self, hP, h5_1, h5_15]
          · rfl
          · trivial
      · intro ss T6 L6 hE6 hI
        simp only [h5_1] at hI 
        obtain ⟨h6_20, h6_1, hL6, hinv⟩ := hI
        replace hL6 := hL6.symm
        subst hL6
        clear h5_1 h5_15 T5
        clear hE6
        refine QX.live [1, 20] (fun T7 hT7 => ?_)
        simp only [forall_mem_cons', forall_mem_nil', Φa, Φb, Φc, Φd, ev, Φe, Φf, Φg, Φh, Φi, Φj, Φk, Φl, reduceIte, reduceCtorEq, if_true, if_false, Φm, Φn, Φo, Φp, true_and, and_true, false_and, and_false, true_implies, forall_const, false_implies, ne_eq, not_true_eq_false, not_false_eq_true, decide_true, decide_false, Φq, and_self, true_or, or_true, dite_true, dite_false, Φr, Φs, decide_eq_true_eq, decide_eq_false_iff_not, Φt, Φu, Φv, Φw, beq_self_eq_true, Φx, Φy, Φz, ΦA, ΦB, eq_self, hP, h6_20, h6_1] at hT7
        obtain ⟨h7_1, h7_20⟩ := hT7
        clear h6_20 h6_1 T6
        refine QX.join 5 (fun (ss : Unit) T L' => T 25 = .bool (okB l c g && o && decide (80 ≤ l ∧ l ≤ 207) && decide (2 ≤ c) && decide (g < 8)) ∧ L' = some (bx, .cells #[.int .i64 l, .int .i64 c, .bool o, .int .i64 g] 23 (0, 0)) :: L ∧ (True)) (fun K6 hK6 => ?_) ?_
        · simp (maxSteps := 1000000) only [Φa, Φb, Φc, Φd, ev, Φe, Φf, Φg, Φh, Φi, Φj, Φk, Φl, reduceIte, reduceCtorEq, if_true, if_false, Φm, Φn, Φo, Φp, true_and, and_true, false_and, and_false, true_implies, forall_const, false_implies, ne_eq, not_true_eq_false, not_false_eq_true, decide_true, decide_false, Φq, and_self, true_or, or_true, dite_true, dite_false, Φr, Φs, decide_eq_true_eq, decide_eq_false_iff_not, Φt, Φu, Φv, Φw, beq_self_eq_true, Φx, Φy, Φz, ΦA, ΦB, eq_self, VCplan, ΦC, ΦD, VCops, VQops, guardVC, putVC, VC, VQ, ΦE, ΦF, ΦG, ΦH, ΦI, ΦJ, ΦK, List.getElem?_cons_zero, List.getElem?_cons_succ, List.getElem?_nil, List.getElem?_toArray, ΦL, ΦM, ΦN, ΦO, ΦP, ΦQ, ΦR, ΦS, ΦT, ΦU, ΦV, ΦW, ΦX, ΦY, ΦZ, Ψa, Ψb, Ψc, Ψd, Ψe, Ψf, Ψg, Ψh, Ψi, Ψj, Ψk, Ψl, exists_eq_left, exists_eq_left', exists_const, existsSome, Ψm, Ψn, fa_ptr, Addr.add_lit, Addr.add_zero', add_addS, Ψo, Int.toNat_zero, Int.toNat_one, Int.reduceToNat, T.elA_23, T.lay_23, T.szA_23, T.zr_23, Tryd.underlying23, ld_ptr, loadVC, loadN, T.szA_3, T.zr_3, Tryd.underlying3, bin_lss, pick_bool, hP, h7_1, h7_20, chk_eq, any1]
          repeat' (first | refine iteB (fun hg => ?_) (fun hg => ?_) | refine iteI (fun hg => ?_) (fun hg => ?_) | ((first | refine ⟨_, Check_spec hP S, ?_⟩ | refine ⟨_, within_spec (bs := [(80, 207)]) (a := ⟨0, 0, none⟩) hP S (by decide), ?_⟩ | refine ⟨by omega, ?_⟩ | refine ⟨_, Cell.at 0 rfl rfl, ?_⟩ | fail); try simp (maxSteps := 1000000) only [Φa, Φb, Φc, Φd, ev, Φe, Φf, Φg, Φh, Φi, Φj, Φk, Φl, reduceIte, reduceCtorEq, if_true, if_false, Φm, Φn, Φo, Φp, true_and, and_true, false_and, and_false, true_implies, forall_const, false_implies, ne_eq, not_true_eq_false, not_false_eq_true, decide_true, decide_false, Φq, and_self, true_or, or_true, dite_true, dite_false, Φr, Φs, decide_eq_true_eq, decide_eq_false_iff_not, Φt, Φu, Φv, Φw, beq_self_eq_true, Φx, Φy, Φz, ΦA, ΦB, eq_self, VCplan, ΦC, ΦD, VCops, VQops, guardVC, putVC, VC, VQ, ΦE, ΦF, ΦG, ΦH, ΦI, ΦJ, ΦK, List.getElem?_cons_zero, List.getElem?_cons_succ, List.getElem?_nil, List.getElem?_toArray, ΦL, ΦM, ΦN, ΦO, ΦP, ΦQ, ΦR, ΦS, ΦT, ΦU, ΦV, ΦW, ΦX, ΦY, ΦZ, Ψa, Ψb, Ψc, Ψd, Ψe, Ψf, Ψg, Ψh, Ψi, Ψj, Ψk, Ψl, exists_eq_left, exists_eq_left', exists_const, existsSome, Ψm, Ψn, fa_ptr, Addr.add_lit, Addr.add_zero', add_addS, Ψo, Int.toNat_zero, Int.toNat_one, Int.reduceToNat, T.elA_23, T.lay_23, T.szA_23, T.zr_23, Tryd.underlying23, ld_ptr, loadVC, loadN, T.szA_3, T.zr_3, Tryd.underlying3, bin_lss, pick_bool, hP, h7_1, h7_20, chk_eq, any1]) | fail)
          all_goals
            refine hK6 () _ (some (bx, .cells #[.int .i64 l, .int .i64 c, .bool o, .int .i64 g] 23 (0, 0)) :: L) _ (by rfl) ?_
            try dsimp only
            refine ⟨?_, ?_, ?_⟩
            · simp (maxSteps := 1000000) only [Φa, Φb, Φc, Φd, ev, Φe, Φf, Φg, Φh, Φi, Φj, Φk, Φl, reduceIte, reduceCtorEq, if_true, if_false, Φm, Φn, Φo, Φp, true_and, and_true, false_and, and_false, true_implies, forall_const, false_implies, ne_eq, not_true_eq_false, not_false_eq_true, decide_true, decide_false, Φq, and_self, true_or, or_true, dite_true, dite_false, Φr, Φs, decide_eq_true_eq, decide_eq_false_iff_not, Φt, Φu, Φv, Φw, beq_self_eq_true, Φx, Φy, Φz, ΦA, ΦB, eq_self, hP, h7_1, h7_20]
              first | done | rfl | (rw [hg]; rfl) | simp [hg]
            · rfl
            · trivial
        · intro ss T8 L8 hE8 hI
          obtain ⟨h8_25, hL8, hinv⟩ := hI
          replace hL8 := hL8.symm
          subst hL8
          clear h7_1 h7_20 T7
          clear hE8
          refine QX.done ?_
          simp (maxSteps := 1000000) only [Φa, Φb, Φc, Φd, ev, Φe, Φf, Φg, Φh, Φi, Φj, Φk, Φl, reduceIte, reduceCtorEq, if_true, if_false, Φm, Φn, Φo, Φp, true_and, and_true, false_and, and_false, true_implies, forall_const, false_implies, ne_eq, not_true_eq_false, not_false_eq_true, decide_true, decide_false, Φq, and_self, true_or, or_true, dite_true, dite_false, Φr, Φs, decide_eq_true_eq, decide_eq_false_iff_not, Φt, Φu, Φv, Φw, beq_self_eq_true, Φx, Φy, Φz, ΦA, ΦB, eq_self, VCplan, ΦC, ΦD, VCops, VQops, guardVC, putVC, VC, VQ, ΦE, ΦF, ΦG, ΦH, ΦI, ΦJ, ΦK, List.getElem?_cons_zero, List.getElem?_cons_succ, List.getElem?_nil, List.getElem?_toArray, ΦL, ΦM, ΦN, ΦO, ΦP, ΦQ, ΦR, ΦS, ΦT, ΦU, ΦV, ΦW, ΦX, ΦY, ΦZ, Ψa, Ψb, Ψc, Ψd, Ψe, Ψf, Ψg, Ψh, Ψi, Ψj, Ψk, Ψl, exists_eq_left, exists_eq_left', exists_const, existsSome, Ψm, Ψn, hP, h8_25]
          refine hK2 _ _ ?_
          try clear hK2 K2
          refine SX.ret ?_
          simp only [Φe, Φf, Φg, Φh, Φi, Φj, Φk, if_true, if_false, reduceIte, retQ_ret]
          try simp only [res0, res1, res2, res3, Φa, Φb, Φc, Φd, ev, Φe, Φf, Φg, Φh, Φi, Φj, Φk, Φl, reduceIte, reduceCtorEq, if_true, if_false, Φm, Φn, Φo, Φp, true_and, and_true, false_and, and_false, true_implies, forall_const, false_implies, ne_eq, not_true_eq_false, not_false_eq_true, decide_true, decide_false, Φq, and_self, true_or, or_true, dite_true, dite_false, Φr, Φs, decide_eq_true_eq, decide_eq_false_iff_not, Φt, Φu, Φv, Φw, beq_self_eq_true, Φx, Φy, Φz, ΦA, ΦB, eq_self, hP, h8_25]
          exact ⟨_, L, (by first | exact Less.refl _ | exact Less.drop _ _ | exact Less.drops (Less.drop _ _) | exact Less.drops (Less.drops (Less.drop _ _)) | exact Less.drops (Less.drops (Less.drops (Less.drop _ _))) | exact Less.drops (Less.drops (Less.drops (Less.drops (Less.drop _ _))))), rfl, rfl, rfl⟩
set_option maxHeartbeats 1000000 in
set_option maxRecDepth 100000 in
theorem Interrupt_spec {Γ : Ctx} (hP : Γ.P = Tryd.prog) {L : Hp} {l c g : Int} {o : Bool} (S : SH Γ) (A : AS Γ) :
    SCall Γ 12 #[(.agg #[.int .i64 l, .int .i64 c, .bool o, .int .i64 g])] L (fun v L' => v = .bool (iB l c o g) ∧ L' = L) := by
  refine SCall.enter (n := 16) (res1 2) (hP ▸ Tryd.func12) rfl rfl (by simp) (res1_ok rfl) ?_
  refine SX.seq_k fun K1 hK1 => ?_
  refine SX.region ?_
  simp (maxSteps := 1000000) only [Φa, Φb, Φc, Φd, ev, Φe, Φf, Φg, Φh, Φi, Φj, Φk, Φl, reduceIte, reduceCtorEq, if_true, if_false, Φm, Φn, Φo, Φp, true_and, and_true, false_and, and_false, true_implies, forall_const, false_implies, ne_eq, not_true_eq_false, not_false_eq_true, decide_true, decide_false, Φq, and_self, true_or, or_true, dite_true, dite_false, Φr, Φs, decide_eq_true_eq, decide_eq_false_iff_not, Φt, Φu, Φv, Φw, beq_self_eq_true, Φx, Φy, Φz, ΦA, ΦB, eq_self, VCplan, ΦC, ΦD, VCops, VQops, guardVC, putVC, VC, VQ, ΦE, ΦF, ΦG, ΦH, ΦI, ΦJ, ΦK, List.getElem?_cons_zero, List.getElem?_cons_succ, List.getElem?_nil, List.getElem?_toArray, ΦL, ΦM, ΦN, ΦO, ΦP, ΦQ, ΦR, ΦS, ΦT, ΦU, ΦV, ΦW, ΦX, ΦY, ΦZ, Ψa, Ψb, Ψc, Ψd, Ψe, Ψf, Ψg, Ψh, Ψi, Ψj, Ψk, Ψl, exists_eq_left, exists_eq_left', exists_const, existsSome, Ψm, Ψn, cells_int, cells_bool, cells_string, cells_pointer, cells_slice, cells_agg, oneB_nil, oneB_cons, one_int, one_bool, one_string, one_pointer, one_slice, one_map, one_func, one_nilFunc, one_nilIface, one_iface, cells_map, cells_func, cells_nilFunc, cells_nilIface, cells_iface, T.elA_23, T.lay_23, T.szA_23, T.zr_23, Tryd.underlying23, hP]
  intro bx
  refine hK1 _ _ ?_
  try clear hK1 K1
  refine SX.seq_k fun K2 hK2 => ?_
  refine SX.quiet_x (hP ▸ T.mixed) (by kernel_rfl) ?_
  refine QX.live [1] (fun T1 hT1 => ?_)
  simp only [forall_mem_cons', forall_mem_nil', Φa, Φb, Φc, Φd, ev, Φe, Φf, Φg, Φh, Φi, Φj, Φk, Φl, reduceIte, reduceCtorEq, if_true, if_false, Φm, Φn, Φo, Φp, true_and, and_true, false_and, and_false, true_implies, forall_const, false_implies, ne_eq, not_true_eq_false, not_false_eq_true, decide_true, decide_false, Φq, and_self, true_or, or_true, dite_true, dite_false, Φr, Φs, decide_eq_true_eq, decide_eq_false_iff_not, Φt, Φu, Φv, Φw, beq_self_eq_true, Φx, Φy, Φz, ΦA, ΦB, eq_self, hP] at hT1
  have h1_1 := hT1; clear hT1
  refine QX.join 7 (fun (ss : Unit) T L' => T 9 = .bool (okB l c g && o) ∧ T 1 = T1 1 ∧ L' = some (bx, .cells #[.int .i64 l, .int .i64 c, .bool o, .int .i64 g] 23 (0, 0)) :: L ∧ (True)) (fun K3 hK3 => ?_) ?_
  · simp only [h1_1] at hK3
    simp (maxSteps := 1000000) only [Φa, Φb, Φc, Φd, ev, Φe, Φf, Φg, Φh, Φi, Φj, Φk, Φl, reduceIte, reduceCtorEq, if_true, if_false, Φm, Φn, Φo, Φp, true_and, and_true, false_and, and_false, true_implies, forall_const, false_implies, ne_eq, not_true_eq_false, not_false_eq_true, decide_true, decide_false, Φq, and_self, true_or, or_true, dite_true, dite_false, Φr, Φs, decide_eq_true_eq, decide_eq_false_iff_not, Φt, Φu, Φv, Φw, beq_self_eq_true, Φx, Φy, Φz, ΦA, ΦB, eq_self, VCplan, ΦC, ΦD, VCops, VQops, guardVC, putVC, VC, VQ, ΦE, ΦF, ΦG, ΦH, ΦI, ΦJ, ΦK, List.getElem?_cons_zero, List.getElem?_cons_succ, List.getElem?_nil, List.getElem?_toArray, ΦL, ΦM, ΦN, ΦO, ΦP, ΦQ, ΦR, ΦS, ΦT, ΦU, ΦV, ΦW, ΦX, ΦY, ΦZ, Ψa, Ψb, Ψc, Ψd, Ψe, Ψf, Ψg, Ψh, Ψi, Ψj, Ψk, Ψl, exists_eq_left, exists_eq_left', exists_const, existsSome, Ψm, Ψn, ld_ptr, loadVC, loadN, Addr.add_lit, Addr.add_zero', add_addS, Ψo, Int.toNat_zero, Int.toNat_one, Int.reduceToNat, T.elA_23, T.lay_23, T.szA_23, T.zr_23, Tryd.underlying23, qcall_f, call_f, len_slice, len_str, cap_slice, min_int, max_int, T.callable_9, bin_eql, bin_eqlb, bin_eqls, bin_eqla, T.szA_26, T.zr_26, Tryd.underlying26, fa_ptr, T.szA_4, T.zr_4, Tryd.underlying4, pick_bool, hP, h1_1, chk_eq, any1]
    repeat' (first | refine iteB (fun hg => ?_) (fun hg => ?_) | refine iteI (fun hg => ?_) (fun hg => ?_) | ((first | refine ⟨_, Check_spec hP S, ?_⟩ | refine ⟨_, within_spec (bs := [(78, 79)]) (a := ⟨2, 0, none⟩) hP A (by decide), ?_⟩ | refine ⟨by omega, ?_⟩ | refine ⟨_, Cell.at 0 rfl rfl, _, Cell.at 0 rfl rfl, _, Cell.at 0 rfl rfl, _, Cell.at 0 rfl rfl, ?_⟩ | refine ⟨_, Cell.at 0 rfl rfl, ?_⟩ | fail); try simp (maxSteps := 1000000) only [Φa, Φb, Φc, Φd, ev, Φe, Φf, Φg, Φh, Φi, Φj, Φk, Φl, reduceIte, reduceCtorEq, if_true, if_false, Φm, Φn, Φo, Φp, true_and, and_true, false_and, and_false, true_implies, forall_const, false_implies, ne_eq, not_true_eq_false, not_false_eq_true, decide_true, decide_false, Φq, and_self, true_or, or_true, dite_true, dite_false, Φr, Φs, decide_eq_true_eq, decide_eq_false_iff_not, Φt, Φu, Φv, Φw, beq_self_eq_true, Φx, Φy, Φz, ΦA, ΦB, eq_self, VCplan, ΦC, ΦD, VCops, VQops, guardVC, putVC, VC, VQ, ΦE, ΦF, ΦG, ΦH, ΦI, ΦJ, ΦK, List.getElem?_cons_zero, List.getElem?_cons_succ, List.getElem?_nil, List.getElem?_toArray, ΦL, ΦM, ΦN, ΦO, ΦP, ΦQ, ΦR, ΦS, ΦT, ΦU, ΦV, ΦW, ΦX, ΦY, ΦZ, Ψa, Ψb, Ψc, Ψd, Ψe, Ψf, Ψg, Ψh, Ψi, Ψj, Ψk, Ψl, exists_eq_left, exists_eq_left', exists_const, existsSome, Ψm, Ψn, ld_ptr, loadVC, loadN, Addr.add_lit, Addr.add_zero', add_addS, Ψo, Int.toNat_zero, Int.toNat_one, Int.reduceToNat, T.elA_23, T.lay_23, T.szA_23, T.zr_23, Tryd.underlying23, qcall_f, call_f, len_slice, len_str, cap_slice, min_int, max_int, T.callable_9, bin_eql, bin_eqlb, bin_eqls, bin_eqla, T.szA_26, T.zr_26, Tryd.underlying26, fa_ptr, T.szA_4, T.zr_4, Tryd.underlying4, pick_bool, hP, h1_1, chk_eq, any1]) | fail)
    all_goals
      refine hK3 () _ (some (bx, .cells #[.int .i64 l, .int .i64 c, .bool o, .int .i64 g] 23 (0, 0)) :: L) _ (by rfl) ?_
      try dsimp only
      refine ⟨?_, ?_, ?_, ?_⟩
      · simp (maxSteps := 1000000) only [Φa, Φb, Φc, Φd, ev, Φe, Φf, Φg, Φh, Φi, Φj, Φk, Φl, reduceIte, reduceCtorEq, if_true, if_false, Φm, Φn, Φo, Φp, true_and, and_true, false_and, and_false, true_implies, forall_const, false_implies, ne_eq, not_true_eq_false, not_false_eq_true, decide_true, decide_false, Φq, and_self, true_or, or_true, dite_true, dite_false, Φr, Φs, decide_eq_true_eq, decide_eq_false_iff_not, Φt, Φu, Φv, Φw, beq_self_eq_true, Φx, Φy, Φz, ΦA, ΦB, eq_self, hP, h1_1]
        first | done | rfl | (rw [hg]; rfl) | simp [hg]
      · simp (maxSteps := 1000000) only [Φa, Φb, Φc, Φd, ev, Φe, Φf, Φg, Φh, Φi, Φj, Φk, Φl, reduceIte, reduceCtorEq, if_true, if_false, Φm, Φn, Φo, Φp, true_and, and_true, false_and, and_false, true_implies, forall_const, false_implies, ne_eq, not_true_eq_false, not_false_eq_true, decide_true, decide_false, Φq, and_self, true_or, or_true, dite_true, dite_false, Φr, Φs, decide_eq_true_eq, decide_eq_false_iff_not, Φt, Φu, Φv, Φw, beq_self_eq_true, Φx, Φy, Φz, ΦA, ΦB, eq_self, hP, h1_1]
      · rfl
      · trivial
  · intro ss T2 L2 hE2 hI
    simp only [h1_1] at hI 
    obtain ⟨h2_9, h2_1, hL2, hinv⟩ := hI
    replace hL2 := hL2.symm
    subst hL2
    clear h1_1 T1
    clear hE2
    refine QX.live [1, 9] (fun T3 hT3 => ?_)
    simp only [forall_mem_cons', forall_mem_nil', Φa, Φb, Φc, Φd, ev, Φe, Φf, Φg, Φh, Φi, Φj, Φk, Φl, reduceIte, reduceCtorEq, if_true, if_false, Φm, Φn, Φo, Φp, true_and, and_true, false_and, and_false, true_implies, forall_const, false_implies, ne_eq, not_true_eq_false, not_false_eq_true, decide_true, decide_false, Φq, and_self, true_or, or_true, dite_true, dite_false, Φr, Φs, decide_eq_true_eq, decide_eq_false_iff_not, Φt, Φu, Φv, Φw, beq_self_eq_true, Φx, Φy, Φz, ΦA, ΦB, eq_self, hP, h2_9, h2_1] at hT3
    obtain ⟨h3_1, h3_9⟩ := hT3
    clear h2_9 h2_1 T2
    refine QX.join 6 (fun (ss : Unit) T L' => T 15 = .bool (okB l c g && o && decide (78 ≤ l ∧ l ≤ 79)) ∧ L' = some (bx, .cells #[.int .i64 l, .int .i64 c, .bool o, .int .i64 g] 23 (0, 0)) :: L ∧ (True)) (fun K4 hK4 => ?_) ?_
    · simp (maxSteps := 1000000) only [Φa, Φb, Φc, Φd, ev, Φe, Φf, Φg, Φh, Φi, Φj, Φk, Φl, reduceIte, reduceCtorEq, if_true, if_false, Φm, Φn, Φo, Φp, true_and, and_true, false_and, and_false, true_implies, forall_const, false_implies, ne_eq, not_true_eq_false, not_false_eq_true, decide_true, decide_false, Φq, and_self, true_or, or_true, dite_true, dite_false, Φr, Φs, decide_eq_true_eq, decide_eq_false_iff_not, Φt, Φu, Φv, Φw, beq_self_eq_true, Φx, Φy, Φz, ΦA, ΦB, eq_self, VCplan, ΦC, ΦD, VCops, VQops, guardVC, putVC, VC, VQ, ΦE, ΦF, ΦG, ΦH, ΦI, ΦJ, ΦK, List.getElem?_cons_zero, List.getElem?_cons_succ, List.getElem?_nil, List.getElem?_toArray, ΦL, ΦM, ΦN, ΦO, ΦP, ΦQ, ΦR, ΦS, ΦT, ΦU, ΦV, ΦW, ΦX, ΦY, ΦZ, Ψa, Ψb, Ψc, Ψd, Ψe, Ψf, Ψg, Ψh, Ψi, Ψj, Ψk, Ψl, exists_eq_left, exists_eq_left', exists_const, existsSome, Ψm, Ψn, fa_ptr, Addr.add_lit, Addr.add_zero', add_addS, Ψo, Int.toNat_zero, Int.toNat_one, Int.reduceToNat, T.elA_23, T.lay_23, T.szA_23, T.zr_23, Tryd.underlying23, ld_ptr, loadVC, loadN, T.szA_3, T.zr_3, Tryd.underlying3, sliceVC, optI, T.elA_44, T.lay_44, T.szA_44, T.zr_44, Tryd.underlying44, qcall_f, call_f, len_slice, len_str, cap_slice, min_int, max_int, T.elS_42, T.szA_42, T.zr_42, Tryd.underlying42, T.callable_19, pick_bool, hP, h3_1, h3_9, chk_eq, any1]
      repeat' (first | refine iteB (fun hg => ?_) (fun hg => ?_) | refine iteI (fun hg => ?_) (fun hg => ?_) | ((first | refine ⟨_, Check_spec hP S, ?_⟩ | refine ⟨_, within_spec (bs := [(78, 79)]) (a := ⟨2, 0, none⟩) hP A (by decide), ?_⟩ | refine ⟨by omega, ?_⟩ | refine ⟨_, Cell.at 0 rfl rfl, ?_⟩ | fail); try simp (maxSteps := 1000000) only [Φa, Φb, Φc, Φd, ev, Φe, Φf, Φg, Φh, Φi, Φj, Φk, Φl, reduceIte, reduceCtorEq, if_true, if_false, Φm, Φn, Φo, Φp, true_and, and_true, false_and, and_false, true_implies, forall_const, false_implies, ne_eq, not_true_eq_false, not_false_eq_true, decide_true, decide_false, Φq, and_self, true_or, or_true, dite_true, dite_false, Φr, Φs, decide_eq_true_eq, decide_eq_false_iff_not, Φt, Φu, Φv, Φw, beq_self_eq_true, Φx, Φy, Φz, ΦA, ΦB, eq_self, VCplan, ΦC, ΦD, VCops, VQops, guardVC, putVC, VC, VQ, ΦE, ΦF, ΦG, ΦH, ΦI, ΦJ, ΦK, List.getElem?_cons_zero, List.getElem?_cons_succ, List.getElem?_nil, List.getElem?_toArray, ΦL, ΦM, ΦN, ΦO, ΦP, ΦQ, ΦR, ΦS, ΦT, ΦU, ΦV, ΦW, ΦX, ΦY, ΦZ, Ψa, Ψb, Ψc, Ψd, Ψe, Ψf, Ψg, Ψh, Ψi, Ψj, Ψk, Ψl, exists_eq_left, exists_eq_left', exists_const, existsSome, Ψm, Ψn, fa_ptr, Addr.add_lit, Addr.add_zero', add_addS, Ψo, Int.toNat_zero, Int.toNat_one, Int.reduceToNat, T.elA_23, T.lay_23, T.szA_23, T.zr_23, Tryd.underlying23, ld_ptr, loadVC, loadN, T.szA_3, T.zr_3, Tryd.underlying3, sliceVC, optI, T.elA_44, T.lay_44, T.szA_44, T.zr_44, Tryd.underlying44, qcall_f, call_f, len_slice, len_str, cap_slice, min_int, max_int, T.elS_42, T.szA_42, T.zr_42, Tryd.underlying42, T.callable_19, pick_bool, hP, h3_1, h3_9, chk_eq, any1]) | fail)
      all_goals
        refine hK4 () _ (some (bx, .cells #[.int .i64 l, .int .i64 c, .bool o, .int .i64 g] 23 (0, 0)) :: L) _ (by rfl) ?_
        try dsimp only
        refine ⟨?_, ?_, ?_⟩
        · simp (maxSteps := 1000000) only [Φa, Φb, Φc, Φd, ev, Φe, Φf, Φg, Φh, Φi, Φj, Φk, Φl, reduceIte, reduceCtorEq, if_true, if_false, Φm, Φn, Φo, Φp, true_and, and_true, false_and, and_false, true_implies, forall_const, false_implies, ne_eq, not_true_eq_false, not_false_eq_true, decide_true, decide_false, Φq, and_self, true_or, or_true, dite_true, dite_false, Φr, Φs, decide_eq_true_eq, decide_eq_false_iff_not, Φt, Φu, Φv, Φw, beq_self_eq_true, Φx, Φy, Φz, ΦA, ΦB, eq_self, hP, h3_1, h3_9]
          first | done | rfl | (rw [hg]; rfl) | simp [hg]
        · rfl
        · trivial
    · intro ss T4 L4 hE4 hI
      obtain ⟨h4_15, hL4, hinv⟩ := hI
      replace hL4 := hL4.symm
      subst hL4
      clear h3_1 h3_9 T3
      clear hE4
      refine QX.done ?_
      simp (maxSteps := 1000000) only [Φa, Φb, Φc, Φd, ev, Φe, Φf, Φg, Φh, Φi, Φj, Φk, Φl, reduceIte, reduceCtorEq, if_true, if_false, Φm, Φn, Φo, Φp, true_and, and_true, false_and, and_false, true_implies, forall_const, false_implies, ne_eq, not_true_eq_false, not_false_eq_true, decide_true, decide_false, Φq, and_self, true_or, or_true, dite_true, dite_false, Φr, Φs, decide_eq_true_eq, decide_eq_false_iff_not, Φt, Φu, Φv, Φw, beq_self_eq_true, Φx, Φy, Φz, ΦA, ΦB, eq_self, VCplan, ΦC, ΦD, VCops, VQops, guardVC, putVC, VC, VQ, ΦE, ΦF, ΦG, ΦH, ΦI, ΦJ, ΦK, List.getElem?_cons_zero, List.getElem?_cons_succ, List.getElem?_nil, List.getElem?_toArray, ΦL, ΦM, ΦN, ΦO, ΦP, ΦQ, ΦR, ΦS, ΦT, ΦU, ΦV, ΦW, ΦX, ΦY, ΦZ, Ψa, Ψb, Ψc, Ψd, Ψe, Ψf, Ψg, Ψh, Ψi, Ψj, Ψk, Ψl, exists_eq_left, exists_eq_left', exists_const, existsSome, Ψm, Ψn, hP, h4_15]
      refine hK2 _ _ ?_
      try clear hK2 K2
      refine SX.ret ?_
      simp only [Φe, Φf, Φg, Φh, Φi, Φj, Φk, if_true, if_false, reduceIte, retQ_ret]
      try simp only [res0, res1, res2, res3, Φa, Φb, Φc, Φd, ev, Φe, Φf, Φg, Φh, Φi, Φj, Φk, Φl, reduceIte, reduceCtorEq, if_true, if_false, Φm, Φn, Φo, Φp, true_and, and_true, false_and, and_false, true_implies, forall_const, false_implies, ne_eq, not_true_eq_false, not_false_eq_true, decide_true, decide_false, Φq, and_self, true_or, or_true, dite_true, dite_false, Φr, Φs, decide_eq_true_eq, decide_eq_false_iff_not, Φt, Φu, Φv, Φw, beq_self_eq_true, Φx, Φy, Φz, ΦA, ΦB, eq_self, hP, h4_15]
      exact ⟨_, L, (by first | exact Less.refl _ | exact Less.drop _ _ | exact Less.drops (Less.drop _ _) | exact Less.drops (Less.drops (Less.drop _ _)) | exact Less.drops (Less.drops (Less.drops (Less.drop _ _))) | exact Less.drops (Less.drops (Less.drops (Less.drops (Less.drop _ _))))), rfl, rfl, rfl⟩
set_option maxHeartbeats 1000000 in
set_option maxRecDepth 100000 in
theorem Flag_spec {Γ : Ctx} (hP : Γ.P = Tryd.prog) {L : Hp} {l c g : Int} {o : Bool} (S : SH Γ) (F : FL Γ) :
    SCall Γ 11 #[(.agg #[.int .i64 l, .int .i64 c, .bool o, .int .i64 g])] L (fun v L' => v = .bool (fB l c g) ∧ L' = L) := by
  refine SCall.enter (n := 12) (res1 2) (hP ▸ Tryd.func11) rfl rfl (by simp) (res1_ok rfl) ?_
  refine SX.seq_k fun K1 hK1 => ?_
  refine SX.region ?_
  simp (maxSteps := 1000000) only [Φa, Φb, Φc, Φd, ev, Φe, Φf, Φg, Φh, Φi, Φj, Φk, Φl, reduceIte, reduceCtorEq, if_true, if_false, Φm, Φn, Φo, Φp, true_and, and_true, false_and, and_false, true_implies, forall_const, false_implies, ne_eq, not_true_eq_false, not_false_eq_true, decide_true, decide_false, Φq, and_self, true_or, or_true, dite_true, dite_false, Φr, Φs, decide_eq_true_eq, decide_eq_false_iff_not, Φt, Φu, Φv, Φw, beq_self_eq_true, Φx, Φy, Φz, ΦA, ΦB, eq_self, VCplan, ΦC, ΦD, VCops, VQops, guardVC, putVC, VC, VQ, ΦE, ΦF, ΦG, ΦH, ΦI, ΦJ, ΦK, List.getElem?_cons_zero, List.getElem?_cons_succ, List.getElem?_nil, List.getElem?_toArray, ΦL, ΦM, ΦN, ΦO, ΦP, ΦQ, ΦR, ΦS, ΦT, ΦU, ΦV, ΦW, ΦX, ΦY, ΦZ, Ψa, Ψb, Ψc, Ψd, Ψe, Ψf, Ψg, Ψh, Ψi, Ψj, Ψk, Ψl, exists_eq_left, exists_eq_left', exists_const, existsSome, Ψm, Ψn, cells_int, cells_bool, cells_string, cells_pointer, cells_slice, cells_agg, oneB_nil, oneB_cons, one_int, one_bool, one_string, one_pointer, one_slice, one_map, one_func, one_nilFunc, one_nilIface, one_iface, cells_map, cells_func, cells_nilFunc, cells_nilIface, cells_iface, T.elA_23, T.lay_23, T.szA_23, T.zr_23, Tryd.underlying23, hP]
  intro bx
  refine hK1 _ _ ?_
  try clear hK1 K1
  refine SX.seq_k fun K2 hK2 => ?_
  refine SX.quiet_x (hP ▸ T.mixed) (by kernel_rfl) ?_
  refine QX.live [1] (fun T1 hT1 => ?_)
  simp only [forall_mem_cons', forall_mem_nil', Φa, Φb, Φc, Φd, ev, Φe, Φf, Φg, Φh, Φi, Φj, Φk, Φl, reduceIte, reduceCtorEq, if_true, if_false, Φm, Φn, Φo, Φp, true_and, and_true, false_and, and_false, true_implies, forall_const, false_implies, ne_eq, not_true_eq_false, not_false_eq_true, decide_true, decide_false, Φq, and_self, true_or, or_true, dite_true, dite_false, Φr, Φs, decide_eq_true_eq, decide_eq_false_iff_not, Φt, Φu, Φv, Φw, beq_self_eq_true, Φx, Φy, Φz, ΦA, ΦB, eq_self, hP] at hT1
  have h1_1 := hT1; clear hT1
  refine QX.join 9 (fun (ss : Unit) T L' => T 11 = .bool (fB l c g) ∧ L' = some (bx, .cells #[.int .i64 l, .int .i64 c, .bool o, .int .i64 g] 23 (0, 0)) :: L ∧ (True)) (fun K3 hK3 => ?_) ?_
  · simp (maxSteps := 1000000) only [Φa, Φb, Φc, Φd, ev, Φe, Φf, Φg, Φh, Φi, Φj, Φk, Φl, reduceIte, reduceCtorEq, if_true, if_false, Φm, Φn, Φo, Φp, true_and, and_true, false_and, and_false, true_implies, forall_const, false_implies, ne_eq, not_true_eq_false, not_false_eq_true, decide_true, decide_false, Φq, and_self, true_or, or_true, dite_true, dite_false, Φr, Φs, decide_eq_true_eq, decide_eq_false_iff_not, Φt, Φu, Φv, Φw, beq_self_eq_true, Φx, Φy, Φz, ΦA, ΦB, eq_self, VCplan, ΦC, ΦD, VCops, VQops, guardVC, putVC, VC, VQ, ΦE, ΦF, ΦG, ΦH, ΦI, ΦJ, ΦK, List.getElem?_cons_zero, List.getElem?_cons_succ, List.getElem?_nil, List.getElem?_toArray, ΦL, ΦM, ΦN, ΦO, ΦP, ΦQ, ΦR, ΦS, ΦT, ΦU, ΦV, ΦW, ΦX, ΦY, ΦZ, Ψa, Ψb, Ψc, Ψd, Ψe, Ψf, Ψg, Ψh, Ψi, Ψj, Ψk, Ψl, exists_eq_left, exists_eq_left', exists_const, existsSome, Ψm, Ψn, ld_ptr, loadVC, loadN, Addr.add_lit, Addr.add_zero', add_addS, Ψo, Int.toNat_zero, Int.toNat_one, Int.reduceToNat, T.elA_23, T.lay_23, T.szA_23, T.zr_23, Tryd.underlying23, qcall_f, call_f, len_slice, len_str, cap_slice, min_int, max_int, T.callable_9, bin_eql, bin_eqlb, bin_eqls, bin_eqla, T.szA_26, T.zr_26, Tryd.underlying26, fa_ptr, T.szA_3, T.zr_3, Tryd.underlying3, sliceVC, optI, T.elA_45, T.lay_45, T.szA_45, T.zr_45, Tryd.underlying45, T.elS_42, T.szA_42, T.zr_42, Tryd.underlying42, T.callable_19, pick_bool, hP, h1_1, chk_eq, any2]
    repeat' (first | refine iteB (fun hg => ?_) (fun hg => ?_) | refine iteI (fun hg => ?_) (fun hg => ?_) | ((first | refine ⟨_, Check_spec hP S, ?_⟩ | refine ⟨_, within_spec (bs := [(76, 79), (204, 207)]) (a := ⟨1, 0, none⟩) hP F (by decide), ?_⟩ | refine ⟨by omega, ?_⟩ | refine ⟨_, Cell.at 0 rfl rfl, _, Cell.at 0 rfl rfl, _, Cell.at 0 rfl rfl, _, Cell.at 0 rfl rfl, ?_⟩ | refine ⟨_, Cell.at 0 rfl rfl, ?_⟩ | fail); try simp (maxSteps := 1000000) only [Φa, Φb, Φc, Φd, ev, Φe, Φf, Φg, Φh, Φi, Φj, Φk, Φl, reduceIte, reduceCtorEq, if_true, if_false, Φm, Φn, Φo, Φp, true_and, and_true, false_and, and_false, true_implies, forall_const, false_implies, ne_eq, not_true_eq_false, not_false_eq_true, decide_true, decide_false, Φq, and_self, true_or, or_true, dite_true, dite_false, Φr, Φs, decide_eq_true_eq, decide_eq_false_iff_not, Φt, Φu, Φv, Φw, beq_self_eq_true, Φx, Φy, Φz, ΦA, ΦB, eq_self, VCplan, ΦC, ΦD, VCops, VQops, guardVC, putVC, VC, VQ, ΦE, ΦF, ΦG, ΦH, ΦI, ΦJ, ΦK, List.getElem?_cons_zero, List.getElem?_cons_succ, List.getElem?_nil, List.getElem?_toArray, ΦL, ΦM, ΦN, ΦO, ΦP, ΦQ, ΦR, ΦS, ΦT, ΦU, ΦV, ΦW, ΦX, ΦY, ΦZ, Ψa, Ψb, Ψc, Ψd, Ψe, Ψf, Ψg, Ψh, Ψi, Ψj, Ψk, Ψl, exists_eq_left, exists_eq_left', exists_const, existsSome, Ψm, Ψn, ld_ptr, loadVC, loadN, Addr.add_lit, Addr.add_zero', add_addS, Ψo, Int.toNat_zero, Int.toNat_one, Int.reduceToNat, T.elA_23, T.lay_23, T.szA_23, T.zr_23, Tryd.underlying23, qcall_f, call_f, len_slice, len_str, cap_slice, min_int, max_int, T.callable_9, bin_eql, bin_eqlb, bin_eqls, bin_eqla, T.szA_26, T.zr_26, Tryd.underlying26, fa_ptr, T.szA_3, T.zr_3, Tryd.underlying3, sliceVC, optI, T.elA_45, T.lay_45, T.szA_45, T.zr_45, Tryd.underlying45, T.elS_42, T.szA_42, T.zr_42, Tryd.underlying42, T.callable_19, pick_bool, hP, h1_1, chk_eq, any2]) | fail)
    all_goals
      refine hK3 () _ (some (bx, .cells #[.int .i64 l, .int .i64 c, .bool o, .int .i64 g] 23 (0, 0)) :: L) _ (by rfl) ?_
      try dsimp only
      refine ⟨?_, ?_, ?_⟩
      · simp (maxSteps := 1000000) only [Φa, Φb, Φc, Φd, ev, Φe, Φf, Φg, Φh, Φi, Φj, Φk, Φl, reduceIte, reduceCtorEq, if_true, if_false, Φm, Φn, Φo, Φp, true_and, and_true, false_and, and_false, true_implies, forall_const, false_implies, ne_eq, not_true_eq_false, not_false_eq_true, decide_true, decide_false, Φq, and_self, true_or, or_true, dite_true, dite_false, Φr, Φs, decide_eq_true_eq, decide_eq_false_iff_not, Φt, Φu, Φv, Φw, beq_self_eq_true, Φx, Φy, Φz, ΦA, ΦB, eq_self, hP, h1_1]
        first | done | (rw [fB, hg]; rfl)
      · rfl
      · trivial
  · intro ss T2 L2 hE2 hI
    obtain ⟨h2_11, hL2, hinv⟩ := hI
    replace hL2 := hL2.symm
    subst hL2
    clear h1_1 T1
    clear hE2
    refine QX.done ?_
    simp (maxSteps := 1000000) only [Φa, Φb, Φc, Φd, ev, Φe, Φf, Φg, Φh, Φi, Φj, Φk, Φl, reduceIte, reduceCtorEq, if_true, if_false, Φm, Φn, Φo, Φp, true_and, and_true, false_and, and_false, true_implies, forall_const, false_implies, ne_eq, not_true_eq_false, not_false_eq_true, decide_true, decide_false, Φq, and_self, true_or, or_true, dite_true, dite_false, Φr, Φs, decide_eq_true_eq, decide_eq_false_iff_not, Φt, Φu, Φv, Φw, beq_self_eq_true, Φx, Φy, Φz, ΦA, ΦB, eq_self, VCplan, ΦC, ΦD, VCops, VQops, guardVC, putVC, VC, VQ, ΦE, ΦF, ΦG, ΦH, ΦI, ΦJ, ΦK, List.getElem?_cons_zero, List.getElem?_cons_succ, List.getElem?_nil, List.getElem?_toArray, ΦL, ΦM, ΦN, ΦO, ΦP, ΦQ, ΦR, ΦS, ΦT, ΦU, ΦV, ΦW, ΦX, ΦY, ΦZ, Ψa, Ψb, Ψc, Ψd, Ψe, Ψf, Ψg, Ψh, Ψi, Ψj, Ψk, Ψl, exists_eq_left, exists_eq_left', exists_const, existsSome, Ψm, Ψn, hP, h2_11]
    refine hK2 _ _ ?_
    try clear hK2 K2
    refine SX.ret ?_
    simp only [Φe, Φf, Φg, Φh, Φi, Φj, Φk, if_true, if_false, reduceIte, retQ_ret]
    try simp only [res0, res1, res2, res3, Φa, Φb, Φc, Φd, ev, Φe, Φf, Φg, Φh, Φi, Φj, Φk, Φl, reduceIte, reduceCtorEq, if_true, if_false, Φm, Φn, Φo, Φp, true_and, and_true, false_and, and_false, true_implies, forall_const, false_implies, ne_eq, not_true_eq_false, not_false_eq_true, decide_true, decide_false, Φq, and_self, true_or, or_true, dite_true, dite_false, Φr, Φs, decide_eq_true_eq, decide_eq_false_iff_not, Φt, Φu, Φv, Φw, beq_self_eq_true, Φx, Φy, Φz, ΦA, ΦB, eq_self, hP, h2_11]
    exact ⟨_, L, (by first | exact Less.refl _ | exact Less.drop _ _ | exact Less.drops (Less.drop _ _) | exact Less.drops (Less.drops (Less.drop _ _)) | exact Less.drops (Less.drops (Less.drops (Less.drop _ _))) | exact Less.drops (Less.drops (Less.drops (Less.drops (Less.drop _ _))))), rfl, rfl, rfl⟩
end Go.Proofs.YtnmidobpknghgaaDoor
