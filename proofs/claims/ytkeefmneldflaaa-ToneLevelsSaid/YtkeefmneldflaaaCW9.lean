/- A part of the proof of ToneLevelsSaid. -/
import Derived.Test.YtkeefmneldflaaaCW5
import Derived.Test.YtkeefmneldflaaaCW8
import Derived.Test.YtkeefmneldflaaaCSxView
set_option linter.unusedVariables false
set_option linter.unusedSimpArgs false
namespace Go.Proofs.Ytkeefmneldflaaa
open Go.RowKit Go.SX
open Go.SX renaming env0_zero → Φa, env0_succ → Φb, env0_nil → Φc, andThen_normal → Φd, andThen_ret → Φe, andThen_exit → Φf, inBlk_normal → Φg, inBlk_ret → Φh, inBlk_exit → Φi
open Nat renaming reduceEqDiff → Φj, reduceBEq → Φk, reduceLeDiff → Ψa, reduceAdd → Ψb, reduceMul → Ψc, reduceSub → Ψd, add_zero → Ψe, mul_one → Ψf
open Bool renaming not_true → Φl, not_false → Φm, false_eq_true → Φn, true_eq_false → Φo, not_eq_true' → Φq, not_eq_false' → Φr, not_eq_true → Φt, not_eq_false → Φu, and_true → Φw, true_and → Φx, and_self → Φy, and_false → Φz, false_and → ΦA
open Int renaming reduceEq → Φp, natCast_inj → Φv
open Decidable renaming not_not → Φs
open Option renaming map_some → ΦB, map_none → ΦC, bind_some → ΦD, bind_none → ΦE, isSome_some → ΦF, isSome_none → ΦG
open Option.some renaming injEq → ΦH
open List renaming map_cons → ΦI, map_toArray → ΦJ, toList_toArray → ΦK, append_toArray → ΦL, nil_append → ΦM, cons_append → ΦN, append_nil → ΦO, flatMap_cons → ΦP, flatMap_nil → ΦQ, length_cons → ΦR, length_nil → ΦS, set_cons_zero → ΦT, set_cons_succ → ΦU, drop_zero → ΦV, drop_succ_cons → ΦW, take_succ_cons → ΦX, take_zero → ΦY, size_toArray → ΦZ

def c1 (x : Int) : List Value := [.int .i64 x]
theorem c1_len (x : Int) : (c1 x).length = 1 := rfl
theorem c1_flat (l : List Int) : l.flatMap c1 = ints .i64 l := by
  induction l with
  | nil => rfl
  | cons x l ih => rw [List.flatMap_cons, ih]; rfl
theorem rowI_L {e : Nat} {v : Value} {l : List Int} {s : Slot} (h : RowI .i64 e v l s) : RowL c1 e 1 v l s := by
  show Row e 1 v l.length (l.flatMap c1) s
  rw [c1_flat]; exact h
theorem sl_I {C : Addr → Value → Prop} {v : Value} {l : List Int} (h : SlS 1 c1 C v l) : SlI .i64 C v l := by
  obtain ⟨A, c, e1, e2, hA⟩ := h
  exact ⟨A, c, e1, e2, fun j x hj => let ⟨a, ha, hr⟩ := hA j x hj; ⟨a, ha, hr 0 _ rfl⟩⟩
theorem set0 (cs : List Value) (i : Nat) (a b : Value) : setN cs i [a, b] = (cs.set i a).set (i + 1) b := rfl
theorem Wf2.of {l : List B2} (h : ∀ x ∈ l, (-9223372036854775808 ≤ x.1 ∧ x.1 ≤ 9223372036854775807) ∧ (-9223372036854775808 ≤ x.2 ∧ x.2 ≤ 9223372036854775807)) : Wf2 l := h
theorem chain_beeps : ∀ (xs : List Rw) (i : Nat) (q : Bool), Chain i q xs → i < 2147483648 → Wf2 (beepF xs)
  | [], _, _, _, _ => fun x hx => by simp [beepF] at hx
  | x :: xs, i, q, ⟨h1, h2, h3, h4, h5⟩, hi => by
    rw [beepF_cons]
    intro y hy
    rcases List.mem_append.1 hy with hy | hy
    · split at hy
      · simp at hy; subst hy; dsimp only; omega
      · cases hy
    · exact chain_beeps xs _ _ h5 h3 y hy
theorem beeps_wf {qs : List Bool} (hm : qs.length < 2147483648) : Wf2 (beepF (rows qs)) := chain_beeps _ _ _ (rows_all hm).1 (by decide)
theorem wG_wf : ∀ (v : List Int), (∀ x ∈ v, -9223372036854775808 ≤ x ∧ x ≤ 9223372036854775807) → Wf2 (wG v)
  | [], _ => fun x hx => by cases hx
  | [n], h => fun x hx => by simp [wG] at hx; subst hx; exact ⟨h n (by simp), by dsimp only; omega⟩
  | n :: m :: r, h => fun x hx => by
    rw [wG] at hx
    rcases List.mem_cons.1 hx with rfl | hx
    · exact ⟨h n (by simp), h m (by simp)⟩
    · exact wG_wf r (fun y hy => h y (by simp [hy])) x hx
theorem wr_rng (x : Rw) : -9223372036854775808 ≤ wr x ∧ wr x ≤ 9223372036854775807 := by rw [wr, IntKind.wrap_i64]; omega
theorem levF_rng (xs : List Rw) : ∀ y ∈ levF xs, -9223372036854775808 ≤ y ∧ y ≤ 9223372036854775807 := by
  cases xs with
  | nil => intro y hy; cases hy
  | cons x xs =>
    rw [levF_cons]
    intro y hy
    rcases List.mem_append.1 hy with hy | hy
    · split at hy
      · simp at hy; subst hy; decide
      · cases hy
    · obtain ⟨r, _, rfl⟩ := List.mem_map.1 hy
      exact wr_rng r
theorem waves_wf {qs : List Bool} (hm : qs.length < 2147483648) : Wf2 (waveF (rows qs)) := by
  rw [← refWave_eq hm]
  exact wG_wf _ fun y hy => levF_rng _ y (List.mem_of_mem_drop hy)
set_option maxHeartbeats 1000000 in
set_option maxRecDepth 100000 in
theorem ToneLevels_spec {Γ : Ctx} (hP : Γ.P = Try.prog) {L : Hp} {A : Option Addr} {c : Nat} {qs : List Bool} (hL : Tg L) (hc : qs.length ≤ c) (hq : Recs Γ L A qs) (hmx : qs.length ≤ 9223372036854775807) :
    SCall Γ 5 #[(.slice A qs.length c)] L (fun v L' => v = .bool true ∧ L' = L) := by
  refine SCall.enter (n := 77) (res1 2) (hP ▸ Try.func5) rfl rfl (by simp) (res1_ok rfl) ?_
  refine SX.seq_k fun K1 hK1 => ?_
  refine SX.region ?_
  simp (maxSteps := 1000000) only [upd_app, Φa, Φb, Φc, ev, Φd, Φe, Φf, Φg, Φh, Φi, Φj, Φk, reduceIte, reduceCtorEq, if_true, if_false, Φl, Φm, Φn, Φo, true_and, and_true, false_and, and_false, true_implies, forall_const, false_implies, ne_eq, not_true_eq_false, not_false_eq_true, decide_true, decide_false, Φp, and_self, true_or, or_true, dite_true, dite_false, Φq, Φr, decide_eq_true_eq, decide_eq_false_iff_not, Φs, Φt, Φu, Φv, beq_self_eq_true, Φw, Φx, Φy, Φz, ΦA, eq_self, VCplan, less_refl_t, less_drop_t, VCops, VQops, guardVC, putVC, VC, VQ, ΦB, ΦC, ΦD, ΦE, ΦF, ΦG, ΦH, List.getElem?_cons_zero, List.getElem?_cons_succ, List.getElem?_nil, List.getElem?_toArray, ΦI, List.map_nil, ΦJ, ΦK, ΦL, ΦM, ΦN, ΦO, ΦP, ΦQ, ΦR, ΦS, ΦT, ΦU, ΦV, ΦW, ΦX, ΦY, ΦZ, Nat.reduceLT, Ψa, Ψb, Ψc, Ψd, Ψe, Nat.zero_add, Ψf, exists_eq_left, exists_eq_left', exists_const, existsSome, Nat.zero_le, Nat.le_refl, hP]
  refine hK1 _ _ ?_
  try clear hK1 K1
  refine SX.seq_k fun K2 hK2 => ?_
  refine SX.seq_k fun K3 hK3 => ?_
  refine SX.region ?_
  simp (maxSteps := 1000000) only [upd_app, Φa, Φb, Φc, ev, Φd, Φe, Φf, Φg, Φh, Φi, Φj, Φk, reduceIte, reduceCtorEq, if_true, if_false, Φl, Φm, Φn, Φo, true_and, and_true, false_and, and_false, true_implies, forall_const, false_implies, ne_eq, not_true_eq_false, not_false_eq_true, decide_true, decide_false, Φp, and_self, true_or, or_true, dite_true, dite_false, Φq, Φr, decide_eq_true_eq, decide_eq_false_iff_not, Φs, Φt, Φu, Φv, beq_self_eq_true, Φw, Φx, Φy, Φz, ΦA, eq_self, VCplan, less_refl_t, less_drop_t, VCops, VQops, guardVC, putVC, VC, VQ, ΦB, ΦC, ΦD, ΦE, ΦF, ΦG, ΦH, List.getElem?_cons_zero, List.getElem?_cons_succ, List.getElem?_nil, List.getElem?_toArray, ΦI, List.map_nil, ΦJ, ΦK, ΦL, ΦM, ΦN, ΦO, ΦP, ΦQ, ΦR, ΦS, ΦT, ΦU, ΦV, ΦW, ΦX, ΦY, ΦZ, Nat.reduceLT, Ψa, Ψb, Ψc, Ψd, Ψe, Nat.zero_add, Ψf, exists_eq_left, exists_eq_left', exists_const, existsSome, Nat.zero_le, Nat.le_refl, qcall_f, call_f, len_slice, len_str, cap_slice, min_int, max_int, T.elS_22, T.szA_22, T.zr_22, Try.underlying22, bin_gtr, hP]
  refine hK3 _ _ ?_
  try clear hK3 K3
  refine SX.cond_k fun X4 Y4 hX4 hY4 => ?_
  simp (maxSteps := 1000000) only [upd_app, Φa, Φb, Φc, ev, Φd, Φe, Φf, Φg, Φh, Φi, Φj, Φk, reduceIte, reduceCtorEq, if_true, if_false, Φl, Φm, Φn, Φo, true_and, and_true, false_and, and_false, true_implies, forall_const, false_implies, ne_eq, not_true_eq_false, not_false_eq_true, decide_true, decide_false, Φp, and_self, true_or, or_true, dite_true, dite_false, Φq, Φr, decide_eq_true_eq, decide_eq_false_iff_not, Φs, Φt, Φu, Φv, beq_self_eq_true, Φw, Φx, Φy, Φz, ΦA, eq_self, hP, condVC]
  refine ⟨fun hc13 => hX4 ?_, fun hc13 => hY4 ?_⟩
  · clear hX4 hY4 X4 Y4
    skip
    refine SX.seq_k fun K5 hK5 => ?_
    refine SX.region ?_
    simp (maxSteps := 1000000) only [upd_app, Φa, Φb, Φc, ev, Φd, Φe, Φf, Φg, Φh, Φi, Φj, Φk, reduceIte, reduceCtorEq, if_true, if_false, Φl, Φm, Φn, Φo, true_and, and_true, false_and, and_false, true_implies, forall_const, false_implies, ne_eq, not_true_eq_false, not_false_eq_true, decide_true, decide_false, Φp, and_self, true_or, or_true, dite_true, dite_false, Φq, Φr, decide_eq_true_eq, decide_eq_false_iff_not, Φs, Φt, Φu, Φv, beq_self_eq_true, Φw, Φx, Φy, Φz, ΦA, eq_self, VCplan, less_refl_t, less_drop_t, VCops, VQops, guardVC, putVC, VC, VQ, ΦB, ΦC, ΦD, ΦE, ΦF, ΦG, ΦH, List.getElem?_cons_zero, List.getElem?_cons_succ, List.getElem?_nil, List.getElem?_toArray, ΦI, List.map_nil, ΦJ, ΦK, ΦL, ΦM, ΦN, ΦO, ΦP, ΦQ, ΦR, ΦS, ΦT, ΦU, ΦV, ΦW, ΦX, ΦY, ΦZ, Nat.reduceLT, Ψa, Ψb, Ψc, Ψd, Ψe, Nat.zero_add, Ψf, exists_eq_left, exists_eq_left', exists_const, existsSome, Nat.zero_le, Nat.le_refl, hP]
    refine hK5 _ _ ?_
    try clear hK5 K5
    refine SX.ret ?_
    simp only [Φd, Φe, Φf, Φg, Φh, Φi, Φj, if_true, if_false, reduceIte, retQ_ret]
    try simp only [res0, res1, res2, res3, upd_app, Φa, Φb, Φc, ev, Φd, Φe, Φf, Φg, Φh, Φi, Φj, Φk, reduceIte, reduceCtorEq, if_true, if_false, Φl, Φm, Φn, Φo, true_and, and_true, false_and, and_false, true_implies, forall_const, false_implies, ne_eq, not_true_eq_false, not_false_eq_true, decide_true, decide_false, Φp, and_self, true_or, or_true, dite_true, dite_false, Φq, Φr, decide_eq_true_eq, decide_eq_false_iff_not, Φs, Φt, Φu, Φv, beq_self_eq_true, Φw, Φx, Φy, Φz, ΦA, eq_self, hP]
    exact ⟨_, L, Less.refl _, rfl, rfl, rfl⟩
  · clear hX4 hY4 X4 Y4
    have hm' : qs.length < 2147483648 := by omega
    have hll : (levF (rows qs)).length ≤ 4294967296 := by have h1 := levF_len (rows qs); have := rows_len qs; (try rw [Nat.one_mul] at h1); omega
    refine SX.skip ?_
    try simp only [Φd, Φe, Φf, Φg, Φh, Φi, Φj, if_true, if_false, reduceIte]
    refine hK2 _ _ ?_
    try clear hK2 K2
    refine SX.seq_k fun K6 hK6 => ?_
    refine SX.region ?_
    simp (maxSteps := 1000000) only [upd_app, Φa, Φb, Φc, ev, Φd, Φe, Φf, Φg, Φh, Φi, Φj, Φk, reduceIte, reduceCtorEq, if_true, if_false, Φl, Φm, Φn, Φo, true_and, and_true, false_and, and_false, true_implies, forall_const, false_implies, ne_eq, not_true_eq_false, not_false_eq_true, decide_true, decide_false, Φp, and_self, true_or, or_true, dite_true, dite_false, Φq, Φr, decide_eq_true_eq, decide_eq_false_iff_not, Φs, Φt, Φu, Φv, beq_self_eq_true, Φw, Φx, Φy, Φz, ΦA, eq_self, VCplan, less_refl_t, less_drop_t, VCops, VQops, guardVC, putVC, VC, VQ, ΦB, ΦC, ΦD, ΦE, ΦF, ΦG, ΦH, List.getElem?_cons_zero, List.getElem?_cons_succ, List.getElem?_nil, List.getElem?_toArray, ΦI, List.map_nil, ΦJ, ΦK, ΦL, ΦM, ΦN, ΦO, ΦP, ΦQ, ΦR, ΦS, ΦT, ΦU, ΦV, ΦW, ΦX, ΦY, ΦZ, Nat.reduceLT, Ψa, Ψb, Ψc, Ψd, Ψe, Nat.zero_add, Ψf, exists_eq_left, exists_eq_left', exists_const, existsSome, Nat.zero_le, Nat.le_refl, qcall_f, call_f, len_slice, len_str, cap_slice, min_int, max_int, T.elS_22, T.szA_22, T.zr_22, Try.underlying22, T.callable_15, hP]
    refine SCall.mono (Levels_spec hP hm' hc hL hq) ?_
    rintro v_ L_ ⟨sa, hL_, hra⟩
    rw [hL_]
    clear hL_ L_
    have hra := rowI_L hra
    generalize hla : levF (rows qs) = la at hra hll
    obtain ⟨A1, k1, rfl, hk1, -⟩ := Row.form hra
    try simp (maxSteps := 1000000) only [upd_app, Φa, Φb, Φc, ev, Φd, Φe, Φf, Φg, Φh, Φi, Φj, Φk, reduceIte, reduceCtorEq, if_true, if_false, Φl, Φm, Φn, Φo, true_and, and_true, false_and, and_false, true_implies, forall_const, false_implies, ne_eq, not_true_eq_false, not_false_eq_true, decide_true, decide_false, Φp, and_self, true_or, or_true, dite_true, dite_false, Φq, Φr, decide_eq_true_eq, decide_eq_false_iff_not, Φs, Φt, Φu, Φv, beq_self_eq_true, Φw, Φx, Φy, Φz, ΦA, eq_self, VCplan, less_refl_t, less_drop_t, VCops, VQops, guardVC, putVC, VC, VQ, ΦB, ΦC, ΦD, ΦE, ΦF, ΦG, ΦH, List.getElem?_cons_zero, List.getElem?_cons_succ, List.getElem?_nil, List.getElem?_toArray, ΦI, List.map_nil, ΦJ, ΦK, ΦL, ΦM, ΦN, ΦO, ΦP, ΦQ, ΦR, ΦS, ΦT, ΦU, ΦV, ΦW, ΦX, ΦY, ΦZ, Nat.reduceLT, Ψa, Ψb, Ψc, Ψd, Ψe, Nat.zero_add, Ψf, exists_eq_left, exists_eq_left', exists_const, existsSome, Nat.zero_le, Nat.le_refl, qcall_f, call_f, len_slice, len_str, cap_slice, min_int, max_int, T.elS_22, T.szA_22, T.zr_22, Try.underlying22, T.callable_15, hP]
    refine hK6 _ _ ?_
    try clear hK6 K6
    refine SX.seq_k fun K7 hK7 => ?_
    refine SX.region ?_
    simp (maxSteps := 1000000) only [upd_app, Φa, Φb, Φc, ev, Φd, Φe, Φf, Φg, Φh, Φi, Φj, Φk, reduceIte, reduceCtorEq, if_true, if_false, Φl, Φm, Φn, Φo, true_and, and_true, false_and, and_false, true_implies, forall_const, false_implies, ne_eq, not_true_eq_false, not_false_eq_true, decide_true, decide_false, Φp, and_self, true_or, or_true, dite_true, dite_false, Φq, Φr, decide_eq_true_eq, decide_eq_false_iff_not, Φs, Φt, Φu, Φv, beq_self_eq_true, Φw, Φx, Φy, Φz, ΦA, eq_self, VCplan, less_refl_t, less_drop_t, VCops, VQops, guardVC, putVC, VC, VQ, ΦB, ΦC, ΦD, ΦE, ΦF, ΦG, ΦH, List.getElem?_cons_zero, List.getElem?_cons_succ, List.getElem?_nil, List.getElem?_toArray, ΦI, List.map_nil, ΦJ, ΦK, ΦL, ΦM, ΦN, ΦO, ΦP, ΦQ, ΦR, ΦS, ΦT, ΦU, ΦV, ΦW, ΦX, ΦY, ΦZ, Nat.reduceLT, Ψa, Ψb, Ψc, Ψd, Ψe, Nat.zero_add, Ψf, exists_eq_left, exists_eq_left', exists_const, existsSome, Nat.zero_le, Nat.le_refl, qcall_f, call_f, len_slice, len_str, cap_slice, min_int, max_int, T.elS_22, T.szA_22, T.zr_22, Try.underlying22, T.callable_15, hP]
    refine SCall.mono (Levels_spec hP hm' hc (Tg.cons (Row.tagged hra (by decide)) hL) (hq.cons _)) ?_
    rintro v_ L_ ⟨sb, hL_, hrb⟩
    rw [hL_]
    clear hL_ L_
    have hrb := rowI_L hrb
    rw [hla] at hrb
    obtain ⟨A2, k2, rfl, hk2, -⟩ := Row.form hrb
    try simp (maxSteps := 1000000) only [upd_app, Φa, Φb, Φc, ev, Φd, Φe, Φf, Φg, Φh, Φi, Φj, Φk, reduceIte, reduceCtorEq, if_true, if_false, Φl, Φm, Φn, Φo, true_and, and_true, false_and, and_false, true_implies, forall_const, false_implies, ne_eq, not_true_eq_false, not_false_eq_true, decide_true, decide_false, Φp, and_self, true_or, or_true, dite_true, dite_false, Φq, Φr, decide_eq_true_eq, decide_eq_false_iff_not, Φs, Φt, Φu, Φv, beq_self_eq_true, Φw, Φx, Φy, Φz, ΦA, eq_self, VCplan, less_refl_t, less_drop_t, VCops, VQops, guardVC, putVC, VC, VQ, ΦB, ΦC, ΦD, ΦE, ΦF, ΦG, ΦH, List.getElem?_cons_zero, List.getElem?_cons_succ, List.getElem?_nil, List.getElem?_toArray, ΦI, List.map_nil, ΦJ, ΦK, ΦL, ΦM, ΦN, ΦO, ΦP, ΦQ, ΦR, ΦS, ΦT, ΦU, ΦV, ΦW, ΦX, ΦY, ΦZ, Nat.reduceLT, Ψa, Ψb, Ψc, Ψd, Ψe, Nat.zero_add, Ψf, exists_eq_left, exists_eq_left', exists_const, existsSome, Nat.zero_le, Nat.le_refl, qcall_f, call_f, len_slice, len_str, cap_slice, min_int, max_int, T.elS_22, T.szA_22, T.zr_22, Try.underlying22, T.callable_15, hP]
    refine hK7 _ _ ?_
    try clear hK7 K7
    refine SX.live [0, 3, 4] (fun T1 hT1 => ?_)
    simp only [forall_mem_cons', forall_mem_nil', upd_app, Φa, Φb, Φc, ev, Φd, Φe, Φf, Φg, Φh, Φi, Φj, Φk, reduceIte, reduceCtorEq, if_true, if_false, Φl, Φm, Φn, Φo, true_and, and_true, false_and, and_false, true_implies, forall_const, false_implies, ne_eq, not_true_eq_false, not_false_eq_true, decide_true, decide_false, Φp, and_self, true_or, or_true, dite_true, dite_false, Φq, Φr, decide_eq_true_eq, decide_eq_false_iff_not, Φs, Φt, Φu, Φv, beq_self_eq_true, Φw, Φx, Φy, Φz, ΦA, eq_self, hP] at hT1
    obtain ⟨h1_0, h1_3, h1_4⟩ := hT1
    refine SX.seq_k fun K8 hK8 => ?_
    refine SX.region ?_
    simp (maxSteps := 1000000) only [upd_app, Φa, Φb, Φc, ev, Φd, Φe, Φf, Φg, Φh, Φi, Φj, Φk, reduceIte, reduceCtorEq, if_true, if_false, Φl, Φm, Φn, Φo, true_and, and_true, false_and, and_false, true_implies, forall_const, false_implies, ne_eq, not_true_eq_false, not_false_eq_true, decide_true, decide_false, Φp, and_self, true_or, or_true, dite_true, dite_false, Φq, Φr, decide_eq_true_eq, decide_eq_false_iff_not, Φs, Φt, Φu, Φv, beq_self_eq_true, Φw, Φx, Φy, Φz, ΦA, eq_self, VCplan, less_refl_t, less_drop_t, VCops, VQops, guardVC, putVC, VC, VQ, ΦB, ΦC, ΦD, ΦE, ΦF, ΦG, ΦH, List.getElem?_cons_zero, List.getElem?_cons_succ, List.getElem?_nil, List.getElem?_toArray, ΦI, List.map_nil, ΦJ, ΦK, ΦL, ΦM, ΦN, ΦO, ΦP, ΦQ, ΦR, ΦS, ΦT, ΦU, ΦV, ΦW, ΦX, ΦY, ΦZ, Nat.reduceLT, Ψa, Ψb, Ψc, Ψd, Ψe, Nat.zero_add, Ψf, exists_eq_left, exists_eq_left', exists_const, existsSome, Nat.zero_le, Nat.le_refl, qcall_f, call_f, len_slice, len_str, cap_slice, min_int, max_int, T.elS_22, T.szA_22, T.zr_22, Try.underlying22, T.callable_16, hP, h1_0, h1_3, h1_4]
    refine SCall.mono (refLevels_spec hP hm' hc ((hq.cons _).cons _)) ?_
    rintro v_ L_ ⟨sw, hL_, hrw⟩
    rw [hL_]
    clear hL_ L_
    rw [refLev_eq hm'] at hrw
    have hrw := rowI_L hrw
    rw [hla] at hrw
    obtain ⟨A3, k3, rfl, hk3, -⟩ := Row.form hrw
    try simp (maxSteps := 1000000) only [upd_app, Φa, Φb, Φc, ev, Φd, Φe, Φf, Φg, Φh, Φi, Φj, Φk, reduceIte, reduceCtorEq, if_true, if_false, Φl, Φm, Φn, Φo, true_and, and_true, false_and, and_false, true_implies, forall_const, false_implies, ne_eq, not_true_eq_false, not_false_eq_true, decide_true, decide_false, Φp, and_self, true_or, or_true, dite_true, dite_false, Φq, Φr, decide_eq_true_eq, decide_eq_false_iff_not, Φs, Φt, Φu, Φv, beq_self_eq_true, Φw, Φx, Φy, Φz, ΦA, eq_self, VCplan, less_refl_t, less_drop_t, VCops, VQops, guardVC, putVC, VC, VQ, ΦB, ΦC, ΦD, ΦE, ΦF, ΦG, ΦH, List.getElem?_cons_zero, List.getElem?_cons_succ, List.getElem?_nil, List.getElem?_toArray, ΦI, List.map_nil, ΦJ, ΦK, ΦL, ΦM, ΦN, ΦO, ΦP, ΦQ, ΦR, ΦS, ΦT, ΦU, ΦV, ΦW, ΦX, ΦY, ΦZ, Nat.reduceLT, Ψa, Ψb, Ψc, Ψd, Ψe, Nat.zero_add, Ψf, exists_eq_left, exists_eq_left', exists_const, existsSome, Nat.zero_le, Nat.le_refl, qcall_f, call_f, len_slice, len_str, cap_slice, min_int, max_int, T.elS_22, T.szA_22, T.zr_22, Try.underlying22, T.callable_16, hP, h1_0, h1_3, h1_4]
    refine hK8 _ _ ?_
    try clear hK8 K8
    refine SX.seq_k fun K9 hK9 => ?_
    refine SX.seq_k fun K10 hK10 => ?_
    refine SX.region_x ?_
    refine RX.live [3, 4, 5] (fun T2 hT2 => ?_)
    simp only [forall_mem_cons', forall_mem_nil', upd_app, Φa, Φb, Φc, ev, Φd, Φe, Φf, Φg, Φh, Φi, Φj, Φk, reduceIte, reduceCtorEq, if_true, if_false, Φl, Φm, Φn, Φo, true_and, and_true, false_and, and_false, true_implies, forall_const, false_implies, ne_eq, not_true_eq_false, not_false_eq_true, decide_true, decide_false, Φp, and_self, true_or, or_true, dite_true, dite_false, Φq, Φr, decide_eq_true_eq, decide_eq_false_iff_not, Φs, Φt, Φu, Φv, beq_self_eq_true, Φw, Φx, Φy, Φz, ΦA, eq_self, hP, h1_0, h1_3, h1_4] at hT2
    obtain ⟨h2_3, h2_4, h2_5⟩ := hT2
    clear h1_0 h1_3 h1_4 T1
    refine RX.join 10 (fun (ss : Unit) T L' => T 29 = .bool (false) ∧ T 3 = T2 3 ∧ T 4 = T2 4 ∧ T 5 = T2 5 ∧ L' = sw :: sb :: sa :: L ∧ (True)) (fun K11 hK11 => ?_) ?_
    · simp only [h2_3, h2_4, h2_5] at hK11
      refine VCops_cut 4 fun K12 hK12 => ?_
      simp (maxSteps := 1000000) only [upd_app, Φa, Φb, Φc, ev, Φd, Φe, Φf, Φg, Φh, Φi, Φj, Φk, reduceIte, reduceCtorEq, if_true, if_false, Φl, Φm, Φn, Φo, true_and, and_true, false_and, and_false, true_implies, forall_const, false_implies, ne_eq, not_true_eq_false, not_false_eq_true, decide_true, decide_false, Φp, and_self, true_or, or_true, dite_true, dite_false, Φq, Φr, decide_eq_true_eq, decide_eq_false_iff_not, Φs, Φt, Φu, Φv, beq_self_eq_true, Φw, Φx, Φy, Φz, ΦA, eq_self, VCplan, less_refl_t, less_drop_t, VCops, VQops, guardVC, putVC, VC, VQ, ΦB, ΦC, ΦD, ΦE, ΦF, ΦG, ΦH, List.getElem?_cons_zero, List.getElem?_cons_succ, List.getElem?_nil, List.getElem?_toArray, ΦI, List.map_nil, ΦJ, ΦK, ΦL, ΦM, ΦN, ΦO, ΦP, ΦQ, ΦR, ΦS, ΦT, ΦU, ΦV, ΦW, ΦX, ΦY, ΦZ, Nat.reduceLT, Ψa, Ψb, Ψc, Ψd, Ψe, Nat.zero_add, Ψf, exists_eq_left, exists_eq_left', exists_const, existsSome, Nat.zero_le, Nat.le_refl, qcall_f, call_f, len_slice, len_str, cap_slice, min_int, max_int, T.elS_35, T.szA_35, T.zr_35, Try.underlying35, T.callable_17, un_not, hP, h2_3, h2_4, h2_5]
      repeat' (first | refine iteB (fun hg => ?_) (fun hg => ?_) | refine iteI (fun hg => ?_) (fun hg => ?_) | ((first | (refine SCall.mono (sameInts_spec hP (sl_I (RowL.sl (L := sw :: sb :: sa :: L) (i := 2) c1_len hra rfl)) (sl_I (RowL.sl (L := sw :: sb :: sa :: L) (i := 0) c1_len hrw rfl)) (by omega)) ?_; rintro v_ L_ ⟨hv_, hL_⟩; rw [hv_, hL_, decide_eq_true rfl]; clear hv_ hL_ v_ L_) | (refine SCall.mono (sameInts_spec hP (sl_I (RowL.sl (L := sw :: sb :: sa :: L) (i := 1) c1_len hrb rfl)) (sl_I (RowL.sl (L := sw :: sb :: sa :: L) (i := 0) c1_len hrw rfl)) (by omega)) ?_; rintro v_ L_ ⟨hv_, hL_⟩; rw [hv_, hL_, decide_eq_true rfl]; clear hv_ hL_ v_ L_) | refine And.intro (by omega) ?_ | refine ⟨_, Cell.at 0 rfl rfl, ?_⟩ | refine ⟨_, Cell.at 1 rfl rfl, ?_⟩ | refine ⟨_, Cell.at 2 rfl rfl, ?_⟩ | fail); try simp (maxSteps := 1000000) only [upd_app, Φa, Φb, Φc, ev, Φd, Φe, Φf, Φg, Φh, Φi, Φj, Φk, reduceIte, reduceCtorEq, if_true, if_false, Φl, Φm, Φn, Φo, true_and, and_true, false_and, and_false, true_implies, forall_const, false_implies, ne_eq, not_true_eq_false, not_false_eq_true, decide_true, decide_false, Φp, and_self, true_or, or_true, dite_true, dite_false, Φq, Φr, decide_eq_true_eq, decide_eq_false_iff_not, Φs, Φt, Φu, Φv, beq_self_eq_true, Φw, Φx, Φy, Φz, ΦA, eq_self, VCplan, less_refl_t, less_drop_t, VCops, VQops, guardVC, putVC, VC, VQ, ΦB, ΦC, ΦD, ΦE, ΦF, ΦG, ΦH, List.getElem?_cons_zero, List.getElem?_cons_succ, List.getElem?_nil, List.getElem?_toArray, ΦI, List.map_nil, ΦJ, ΦK, ΦL, ΦM, ΦN, ΦO, ΦP, ΦQ, ΦR, ΦS, ΦT, ΦU, ΦV, ΦW, ΦX, ΦY, ΦZ, Nat.reduceLT, Ψa, Ψb, Ψc, Ψd, Ψe, Nat.zero_add, Ψf, exists_eq_left, exists_eq_left', exists_const, existsSome, Nat.zero_le, Nat.le_refl, qcall_f, call_f, len_slice, len_str, cap_slice, min_int, max_int, T.elS_35, T.szA_35, T.zr_35, Try.underlying35, T.callable_17, un_not, hP, h2_3, h2_4, h2_5]) | fail)
      all_goals (refine hK12 _ _ ?_; clear hK12 K12)
      all_goals
        refine VCops_cut 4 fun K13 hK13 => ?_
        try simp (maxSteps := 1000000) only [upd_app, Φa, Φb, Φc, ev, Φd, Φe, Φf, Φg, Φh, Φi, Φj, Φk, reduceIte, reduceCtorEq, if_true, if_false, Φl, Φm, Φn, Φo, true_and, and_true, false_and, and_false, true_implies, forall_const, false_implies, ne_eq, not_true_eq_false, not_false_eq_true, decide_true, decide_false, Φp, and_self, true_or, or_true, dite_true, dite_false, Φq, Φr, decide_eq_true_eq, decide_eq_false_iff_not, Φs, Φt, Φu, Φv, beq_self_eq_true, Φw, Φx, Φy, Φz, ΦA, eq_self, VCplan, less_refl_t, less_drop_t, VCops, VQops, guardVC, putVC, VC, VQ, ΦB, ΦC, ΦD, ΦE, ΦF, ΦG, ΦH, List.getElem?_cons_zero, List.getElem?_cons_succ, List.getElem?_nil, List.getElem?_toArray, ΦI, List.map_nil, ΦJ, ΦK, ΦL, ΦM, ΦN, ΦO, ΦP, ΦQ, ΦR, ΦS, ΦT, ΦU, ΦV, ΦW, ΦX, ΦY, ΦZ, Nat.reduceLT, Ψa, Ψb, Ψc, Ψd, Ψe, Nat.zero_add, Ψf, exists_eq_left, exists_eq_left', exists_const, existsSome, Nat.zero_le, Nat.le_refl, qcall_f, call_f, len_slice, len_str, cap_slice, min_int, max_int, T.elS_35, T.szA_35, T.zr_35, Try.underlying35, T.callable_17, hP, h2_3, h2_4, h2_5]
        repeat' (first | refine iteB (fun hg => ?_) (fun hg => ?_) | refine iteI (fun hg => ?_) (fun hg => ?_) | ((first | (refine SCall.mono (sameInts_spec hP (sl_I (RowL.sl (L := sw :: sb :: sa :: L) (i := 2) c1_len hra rfl)) (sl_I (RowL.sl (L := sw :: sb :: sa :: L) (i := 0) c1_len hrw rfl)) (by omega)) ?_; rintro v_ L_ ⟨hv_, hL_⟩; rw [hv_, hL_, decide_eq_true rfl]; clear hv_ hL_ v_ L_) | (refine SCall.mono (sameInts_spec hP (sl_I (RowL.sl (L := sw :: sb :: sa :: L) (i := 1) c1_len hrb rfl)) (sl_I (RowL.sl (L := sw :: sb :: sa :: L) (i := 0) c1_len hrw rfl)) (by omega)) ?_; rintro v_ L_ ⟨hv_, hL_⟩; rw [hv_, hL_, decide_eq_true rfl]; clear hv_ hL_ v_ L_) | refine And.intro (by omega) ?_ | refine ⟨_, Cell.at 0 rfl rfl, ?_⟩ | refine ⟨_, Cell.at 1 rfl rfl, ?_⟩ | refine ⟨_, Cell.at 2 rfl rfl, ?_⟩ | fail); try simp (maxSteps := 1000000) only [upd_app, Φa, Φb, Φc, ev, Φd, Φe, Φf, Φg, Φh, Φi, Φj, Φk, reduceIte, reduceCtorEq, if_true, if_false, Φl, Φm, Φn, Φo, true_and, and_true, false_and, and_false, true_implies, forall_const, false_implies, ne_eq, not_true_eq_false, not_false_eq_true, decide_true, decide_false, Φp, and_self, true_or, or_true, dite_true, dite_false, Φq, Φr, decide_eq_true_eq, decide_eq_false_iff_not, Φs, Φt, Φu, Φv, beq_self_eq_true, Φw, Φx, Φy, Φz, ΦA, eq_self, VCplan, less_refl_t, less_drop_t, VCops, VQops, guardVC, putVC, VC, VQ, ΦB, ΦC, ΦD, ΦE, ΦF, ΦG, ΦH, List.getElem?_cons_zero, List.getElem?_cons_succ, List.getElem?_nil, List.getElem?_toArray, ΦI, List.map_nil, ΦJ, ΦK, ΦL, ΦM, ΦN, ΦO, ΦP, ΦQ, ΦR, ΦS, ΦT, ΦU, ΦV, ΦW, ΦX, ΦY, ΦZ, Nat.reduceLT, Ψa, Ψb, Ψc, Ψd, Ψe, Nat.zero_add, Ψf, exists_eq_left, exists_eq_left', exists_const, existsSome, Nat.zero_le, Nat.le_refl, qcall_f, call_f, len_slice, len_str, cap_slice, min_int, max_int, T.elS_35, T.szA_35, T.zr_35, Try.underlying35, T.callable_17, hP, h2_3, h2_4, h2_5]) | fail)
        all_goals (refine hK13 _ _ ?_; clear hK13 K13)
      all_goals
        try simp (maxSteps := 1000000) only [upd_app, Φa, Φb, Φc, ev, Φd, Φe, Φf, Φg, Φh, Φi, Φj, Φk, reduceIte, reduceCtorEq, if_true, if_false, Φl, Φm, Φn, Φo, true_and, and_true, false_and, and_false, true_implies, forall_const, false_implies, ne_eq, not_true_eq_false, not_false_eq_true, decide_true, decide_false, Φp, and_self, true_or, or_true, dite_true, dite_false, Φq, Φr, decide_eq_true_eq, decide_eq_false_iff_not, Φs, Φt, Φu, Φv, beq_self_eq_true, Φw, Φx, Φy, Φz, ΦA, eq_self, VCplan, less_refl_t, less_drop_t, VCops, VQops, guardVC, putVC, VC, VQ, ΦB, ΦC, ΦD, ΦE, ΦF, ΦG, ΦH, List.getElem?_cons_zero, List.getElem?_cons_succ, List.getElem?_nil, List.getElem?_toArray, ΦI, List.map_nil, ΦJ, ΦK, ΦL, ΦM, ΦN, ΦO, ΦP, ΦQ, ΦR, ΦS, ΦT, ΦU, ΦV, ΦW, ΦX, ΦY, ΦZ, Nat.reduceLT, Ψa, Ψb, Ψc, Ψd, Ψe, Nat.zero_add, Ψf, exists_eq_left, exists_eq_left', exists_const, existsSome, Nat.zero_le, Nat.le_refl, un_not, pick_bool, hP, h2_3, h2_4, h2_5]
        repeat' (first | refine iteB (fun hg => ?_) (fun hg => ?_) | refine iteI (fun hg => ?_) (fun hg => ?_) | ((first | (refine SCall.mono (sameInts_spec hP (sl_I (RowL.sl (L := sw :: sb :: sa :: L) (i := 2) c1_len hra rfl)) (sl_I (RowL.sl (L := sw :: sb :: sa :: L) (i := 0) c1_len hrw rfl)) (by omega)) ?_; rintro v_ L_ ⟨hv_, hL_⟩; rw [hv_, hL_, decide_eq_true rfl]; clear hv_ hL_ v_ L_) | (refine SCall.mono (sameInts_spec hP (sl_I (RowL.sl (L := sw :: sb :: sa :: L) (i := 1) c1_len hrb rfl)) (sl_I (RowL.sl (L := sw :: sb :: sa :: L) (i := 0) c1_len hrw rfl)) (by omega)) ?_; rintro v_ L_ ⟨hv_, hL_⟩; rw [hv_, hL_, decide_eq_true rfl]; clear hv_ hL_ v_ L_) | refine And.intro (by omega) ?_ | refine ⟨_, Cell.at 0 rfl rfl, ?_⟩ | refine ⟨_, Cell.at 1 rfl rfl, ?_⟩ | refine ⟨_, Cell.at 2 rfl rfl, ?_⟩ | fail); try simp (maxSteps := 1000000) only [upd_app, Φa, Φb, Φc, ev, Φd, Φe, Φf, Φg, Φh, Φi, Φj, Φk, reduceIte, reduceCtorEq, if_true, if_false, Φl, Φm, Φn, Φo, true_and, and_true, false_and, and_false, true_implies, forall_const, false_implies, ne_eq, not_true_eq_false, not_false_eq_true, decide_true, decide_false, Φp, and_self, true_or, or_true, dite_true, dite_false, Φq, Φr, decide_eq_true_eq, decide_eq_false_iff_not, Φs, Φt, Φu, Φv, beq_self_eq_true, Φw, Φx, Φy, Φz, ΦA, eq_self, VCplan, less_refl_t, less_drop_t, VCops, VQops, guardVC, putVC, VC, VQ, ΦB, ΦC, ΦD, ΦE, ΦF, ΦG, ΦH, List.getElem?_cons_zero, List.getElem?_cons_succ, List.getElem?_nil, List.getElem?_toArray, ΦI, List.map_nil, ΦJ, ΦK, ΦL, ΦM, ΦN, ΦO, ΦP, ΦQ, ΦR, ΦS, ΦT, ΦU, ΦV, ΦW, ΦX, ΦY, ΦZ, Nat.reduceLT, Ψa, Ψb, Ψc, Ψd, Ψe, Nat.zero_add, Ψf, exists_eq_left, exists_eq_left', exists_const, existsSome, Nat.zero_le, Nat.le_refl, un_not, pick_bool, hP, h2_3, h2_4, h2_5]) | fail)
      all_goals
        refine hK11 () _ (sw :: sb :: sa :: L) _ (by first | exact Less.refl _ | exact Less.drop _ _ | exact Less.drops (Less.drop _ _) | exact Less.drops (Less.drops (Less.drop _ _)) | exact Less.drops (Less.drops (Less.drops (Less.drop _ _))) | exact Less.drops (Less.drops (Less.drops (Less.drops (Less.drop _ _))))) ?_
        try dsimp only
        refine ⟨?_, ?_, ?_, ?_, ?_, ?_⟩
        · simp (maxSteps := 1000000) only [upd_app, Φa, Φb, Φc, ev, Φd, Φe, Φf, Φg, Φh, Φi, Φj, Φk, reduceIte, reduceCtorEq, if_true, if_false, Φl, Φm, Φn, Φo, true_and, and_true, false_and, and_false, true_implies, forall_const, false_implies, ne_eq, not_true_eq_false, not_false_eq_true, decide_true, decide_false, Φp, and_self, true_or, or_true, dite_true, dite_false, Φq, Φr, decide_eq_true_eq, decide_eq_false_iff_not, Φs, Φt, Φu, Φv, beq_self_eq_true, Φw, Φx, Φy, Φz, ΦA, eq_self, hP, h2_3, h2_4, h2_5]
          first | done | rfl
        · simp (maxSteps := 1000000) only [upd_app, Φa, Φb, Φc, ev, Φd, Φe, Φf, Φg, Φh, Φi, Φj, Φk, reduceIte, reduceCtorEq, if_true, if_false, Φl, Φm, Φn, Φo, true_and, and_true, false_and, and_false, true_implies, forall_const, false_implies, ne_eq, not_true_eq_false, not_false_eq_true, decide_true, decide_false, Φp, and_self, true_or, or_true, dite_true, dite_false, Φq, Φr, decide_eq_true_eq, decide_eq_false_iff_not, Φs, Φt, Φu, Φv, beq_self_eq_true, Φw, Φx, Φy, Φz, ΦA, eq_self, hP, h2_3, h2_4, h2_5]
        · simp (maxSteps := 1000000) only [upd_app, Φa, Φb, Φc, ev, Φd, Φe, Φf, Φg, Φh, Φi, Φj, Φk, reduceIte, reduceCtorEq, if_true, if_false, Φl, Φm, Φn, Φo, true_and, and_true, false_and, and_false, true_implies, forall_const, false_implies, ne_eq, not_true_eq_false, not_false_eq_true, decide_true, decide_false, Φp, and_self, true_or, or_true, dite_true, dite_false, Φq, Φr, decide_eq_true_eq, decide_eq_false_iff_not, Φs, Φt, Φu, Φv, beq_self_eq_true, Φw, Φx, Φy, Φz, ΦA, eq_self, hP, h2_3, h2_4, h2_5]
        · simp (maxSteps := 1000000) only [upd_app, Φa, Φb, Φc, ev, Φd, Φe, Φf, Φg, Φh, Φi, Φj, Φk, reduceIte, reduceCtorEq, if_true, if_false, Φl, Φm, Φn, Φo, true_and, and_true, false_and, and_false, true_implies, forall_const, false_implies, ne_eq, not_true_eq_false, not_false_eq_true, decide_true, decide_false, Φp, and_self, true_or, or_true, dite_true, dite_false, Φq, Φr, decide_eq_true_eq, decide_eq_false_iff_not, Φs, Φt, Φu, Φv, beq_self_eq_true, Φw, Φx, Φy, Φz, ΦA, eq_self, hP, h2_3, h2_4, h2_5]
        · rfl
        · trivial
    · intro ss T3 L3 hI
      simp only [h2_3, h2_4, h2_5] at hI 
      obtain ⟨h3_29, h3_3, h3_4, h3_5, hL3, hinv⟩ := hI
      replace hL3 := hL3.symm
      subst hL3
      clear h2_3 h2_4 h2_5 T2
      refine RX.done ?_
      simp (maxSteps := 1000000) only [upd_app, Φa, Φb, Φc, ev, Φd, Φe, Φf, Φg, Φh, Φi, Φj, Φk, reduceIte, reduceCtorEq, if_true, if_false, Φl, Φm, Φn, Φo, true_and, and_true, false_and, and_false, true_implies, forall_const, false_implies, ne_eq, not_true_eq_false, not_false_eq_true, decide_true, decide_false, Φp, and_self, true_or, or_true, dite_true, dite_false, Φq, Φr, decide_eq_true_eq, decide_eq_false_iff_not, Φs, Φt, Φu, Φv, beq_self_eq_true, Φw, Φx, Φy, Φz, ΦA, eq_self, VCplan, less_refl_t, less_drop_t, VCops, VQops, guardVC, putVC, VC, VQ, ΦB, ΦC, ΦD, ΦE, ΦF, ΦG, ΦH, List.getElem?_cons_zero, List.getElem?_cons_succ, List.getElem?_nil, List.getElem?_toArray, ΦI, List.map_nil, ΦJ, ΦK, ΦL, ΦM, ΦN, ΦO, ΦP, ΦQ, ΦR, ΦS, ΦT, ΦU, ΦV, ΦW, ΦX, ΦY, ΦZ, Nat.reduceLT, Ψa, Ψb, Ψc, Ψd, Ψe, Nat.zero_add, Ψf, exists_eq_left, exists_eq_left', exists_const, existsSome, Nat.zero_le, Nat.le_refl, hP, h3_29, h3_3, h3_4, h3_5]
      refine hK10 _ _ ?_
      try clear hK10 K10
      refine SX.cond_k fun X14 Y14 hX14 hY14 => ?_
      simp (maxSteps := 1000000) only [upd_app, Φa, Φb, Φc, ev, Φd, Φe, Φf, Φg, Φh, Φi, Φj, Φk, reduceIte, reduceCtorEq, if_true, if_false, Φl, Φm, Φn, Φo, true_and, and_true, false_and, and_false, true_implies, forall_const, false_implies, ne_eq, not_true_eq_false, not_false_eq_true, decide_true, decide_false, Φp, and_self, true_or, or_true, dite_true, dite_false, Φq, Φr, decide_eq_true_eq, decide_eq_false_iff_not, Φs, Φt, Φu, Φv, beq_self_eq_true, Φw, Φx, Φy, Φz, ΦA, eq_self, hP, h3_29, h3_3, h3_4, h3_5, condVC]
      refine hY14 ?_
      clear hX14 hY14 X14 Y14
      refine SX.skip ?_
      try simp only [Φd, Φe, Φf, Φg, Φh, Φi, Φj, if_true, if_false, reduceIte]
      refine hK9 _ _ ?_
      try clear hK9 K9
      refine SX.seq_k fun K15 hK15 => ?_
      refine SX.seq_k fun K16 hK16 => ?_
      refine SX.region ?_
      simp (maxSteps := 1000000) only [upd_app, Φa, Φb, Φc, ev, Φd, Φe, Φf, Φg, Φh, Φi, Φj, Φk, reduceIte, reduceCtorEq, if_true, if_false, Φl, Φm, Φn, Φo, true_and, and_true, false_and, and_false, true_implies, forall_const, false_implies, ne_eq, not_true_eq_false, not_false_eq_true, decide_true, decide_false, Φp, and_self, true_or, or_true, dite_true, dite_false, Φq, Φr, decide_eq_true_eq, decide_eq_false_iff_not, Φs, Φt, Φu, Φv, beq_self_eq_true, Φw, Φx, Φy, Φz, ΦA, eq_self, VCplan, less_refl_t, less_drop_t, VCops, VQops, guardVC, putVC, VC, VQ, ΦB, ΦC, ΦD, ΦE, ΦF, ΦG, ΦH, List.getElem?_cons_zero, List.getElem?_cons_succ, List.getElem?_nil, List.getElem?_toArray, ΦI, List.map_nil, ΦJ, ΦK, ΦL, ΦM, ΦN, ΦO, ΦP, ΦQ, ΦR, ΦS, ΦT, ΦU, ΦV, ΦW, ΦX, ΦY, ΦZ, Nat.reduceLT, Ψa, Ψb, Ψc, Ψd, Ψe, Nat.zero_add, Ψf, exists_eq_left, exists_eq_left', exists_const, existsSome, Nat.zero_le, Nat.le_refl, hP, h3_29, h3_3, h3_4, h3_5]
      refine hK16 _ _ ?_
      try clear hK16 K16
      refine SX.block ?_
      refine SX.live [3, 4, 5, 6] (fun T4 hT4 => ?_)
      simp only [forall_mem_cons', forall_mem_nil', upd_app, Φa, Φb, Φc, ev, Φd, Φe, Φf, Φg, Φh, Φi, Φj, Φk, reduceIte, reduceCtorEq, if_true, if_false, Φl, Φm, Φn, Φo, true_and, and_true, false_and, and_false, true_implies, forall_const, false_implies, ne_eq, not_true_eq_false, not_false_eq_true, decide_true, decide_false, Φp, and_self, true_or, or_true, dite_true, dite_false, Φq, Φr, decide_eq_true_eq, decide_eq_false_iff_not, Φs, Φt, Φu, Φv, beq_self_eq_true, Φw, Φx, Φy, Φz, ΦA, eq_self, hP, h3_29, h3_3, h3_4, h3_5] at hT4
      obtain ⟨h4_3, h4_4, h4_5, h4_6⟩ := hT4
      clear h3_29 h3_3 h3_4 h3_5 T3
      refine SX.loop_k (fun (ss : (Nat) × (List Int) × (Slot)) T L' => (fun (i : Nat) (l1 : List Int) (s1 : Slot) => T 6 = .int .i64 (i : Int) ∧ T 3 = T4 3 ∧ T 4 = T4 4 ∧ T 5 = T4 5 ∧ L' = sw :: sb :: s1 :: L ∧ (i ≤ la.length ∧ RowL c1 3 1 (.slice A1 la.length k1) (l1) s1 ∧ l1.length = la.length)) (ss.1) (ss.2.1) (ss.2.2)) (fun (ss : (Nat) × (List Int) × (Slot)) => (fun (i : Nat) (l1 : List Int) (s1 : Slot) => la.length - i) (ss.1) (ss.2.1) (ss.2.2)) (0, la, sa) ?_ ?_
      · try dsimp only
        refine ⟨?_, ?_, ?_, ?_, ?_, ?_⟩
        · first | exact h4_6 | (rw [h4_6]; rfl) | (rw [h4_6]; simp; done)
        · rfl
        · rfl
        · rfl
        · rfl
        · exact ⟨Nat.zero_le _, hra, rfl⟩
      · intro ss T5 L5 hI K17 hK17
        obtain ⟨i, l1, s1⟩ := ss
        try dsimp only at hI hK17
        simp only [h4_3, h4_4, h4_5] at hI hK17
        obtain ⟨h5_6, h5_3, h5_4, h5_5, hL5, ⟨hi, hr1, hl1⟩⟩ := hI
        replace hL5 := hL5.symm
        subst hL5
        clear h4_3 h4_4 h4_5 h4_6 T4
        refine SX.seq_k fun K18 hK18 => ?_
        refine SX.seq_k fun K19 hK19 => ?_
        refine SX.region ?_
        simp (maxSteps := 1000000) only [upd_app, Φa, Φb, Φc, ev, Φd, Φe, Φf, Φg, Φh, Φi, Φj, Φk, reduceIte, reduceCtorEq, if_true, if_false, Φl, Φm, Φn, Φo, true_and, and_true, false_and, and_false, true_implies, forall_const, false_implies, ne_eq, not_true_eq_false, not_false_eq_true, decide_true, decide_false, Φp, and_self, true_or, or_true, dite_true, dite_false, Φq, Φr, decide_eq_true_eq, decide_eq_false_iff_not, Φs, Φt, Φu, Φv, beq_self_eq_true, Φw, Φx, Φy, Φz, ΦA, eq_self, VCplan, less_refl_t, less_drop_t, VCops, VQops, guardVC, putVC, VC, VQ, ΦB, ΦC, ΦD, ΦE, ΦF, ΦG, ΦH, List.getElem?_cons_zero, List.getElem?_cons_succ, List.getElem?_nil, List.getElem?_toArray, ΦI, List.map_nil, ΦJ, ΦK, ΦL, ΦM, ΦN, ΦO, ΦP, ΦQ, ΦR, ΦS, ΦT, ΦU, ΦV, ΦW, ΦX, ΦY, ΦZ, Nat.reduceLT, Ψa, Ψb, Ψc, Ψd, Ψe, Nat.zero_add, Ψf, exists_eq_left, exists_eq_left', exists_const, existsSome, Nat.zero_le, Nat.le_refl, qcall_f, call_f, len_slice, len_str, cap_slice, min_int, max_int, T.elS_35, T.szA_35, T.zr_35, Try.underlying35, bin_lss, hP, h5_6, h5_3, h5_4, h5_5]
        refine hK19 _ _ ?_
        try clear hK19 K19
        refine SX.cond_k fun X20 Y20 hX20 hY20 => ?_
        simp (maxSteps := 1000000) only [upd_app, Φa, Φb, Φc, ev, Φd, Φe, Φf, Φg, Φh, Φi, Φj, Φk, reduceIte, reduceCtorEq, if_true, if_false, Φl, Φm, Φn, Φo, true_and, and_true, false_and, and_false, true_implies, forall_const, false_implies, ne_eq, not_true_eq_false, not_false_eq_true, decide_true, decide_false, Φp, and_self, true_or, or_true, dite_true, dite_false, Φq, Φr, decide_eq_true_eq, decide_eq_false_iff_not, Φs, Φt, Φu, Φv, beq_self_eq_true, Φw, Φx, Φy, Φz, ΦA, eq_self, hP, h5_6, h5_3, h5_4, h5_5, condVC]
        refine ⟨fun hc33 => hX20 ?_, fun hc33 => hY20 ?_⟩
        · clear hX20 hY20 X20 Y20
          refine SX.skip ?_
          try simp only [Φd, Φe, Φf, Φg, Φh, Φi, Φj, if_true, if_false, reduceIte]
          refine hK18 _ _ ?_
          try clear hK18 K18
          refine SX.seq_k fun K21 hK21 => ?_
          refine SX.block ?_
          obtain ⟨g, cap, junk, hv_, rfl, hcap, hjl⟩ := RowL.form hr1 (by omega)
          simp only [Value.slice.injEq] at hv_
          obtain ⟨hA1_, hln_, hk1_⟩ := hv_
          have hj : l1[i]? = some l1[i] := List.getElem?_eq_getElem (by omega)
          have hset : (l1.flatMap c1 ++ junk).set i (.int .i64 (-1)) = (l1.set i (-1)).flatMap c1 ++ junk := by
            have := setN_flat (junk := junk) (o := 0) (vs := c1 (-1)) c1_len hj rfl (Nat.le_refl _)
            rw [Nat.mul_one] at this
            exact this
          have hfl := flat_len c1_len l1
          refine SX.region ?_
          simp (maxSteps := 1000000) only [upd_app, Φa, Φb, Φc, ev, Φd, Φe, Φf, Φg, Φh, Φi, Φj, Φk, reduceIte, reduceCtorEq, if_true, if_false, Φl, Φm, Φn, Φo, true_and, and_true, false_and, and_false, true_implies, forall_const, false_implies, ne_eq, not_true_eq_false, not_false_eq_true, decide_true, decide_false, Φp, and_self, true_or, or_true, dite_true, dite_false, Φq, Φr, decide_eq_true_eq, decide_eq_false_iff_not, Φs, Φt, Φu, Φv, beq_self_eq_true, Φw, Φx, Φy, Φz, ΦA, eq_self, VCplan, less_refl_t, less_drop_t, VCops, VQops, guardVC, putVC, VC, VQ, ΦB, ΦC, ΦD, ΦE, ΦF, ΦG, ΦH, List.getElem?_cons_zero, List.getElem?_cons_succ, List.getElem?_nil, List.getElem?_toArray, ΦI, List.map_nil, ΦJ, ΦK, ΦL, ΦM, ΦN, ΦO, ΦP, ΦQ, ΦR, ΦS, ΦT, ΦU, ΦV, ΦW, ΦX, ΦY, ΦZ, Nat.reduceLT, Ψa, Ψb, Ψc, Ψd, Ψe, Nat.zero_add, Ψf, exists_eq_left, exists_eq_left', exists_const, existsSome, Nat.zero_le, Nat.le_refl, ia_slice, ia_arr, Addr.add_lit, Addr.add_zero', add_addS, Int.toNat_natCast, Int.toNat_zero, Int.toNat_one, Int.reduceToNat, T.elS_35, T.szA_35, T.zr_35, Try.underlying35, st_ptr, storeVC, setN, cells_int, cells_bool, cells_string, cells_pointer, cells_slice, cells_agg, oneB_nil, oneB_cons, one_int, one_bool, one_string, one_pointer, one_slice, one_map, one_func, one_nilFunc, one_nilIface, one_iface, cells_map, cells_func, cells_nilFunc, cells_nilIface, cells_iface, T.szA_3, T.zr_3, Try.underlying3, hP, h5_6, h5_3, h5_4, h5_5, hA1_, Int.toNat_natCast]
          refine ⟨⟨by omega, by omega⟩, 2, _, _, _, rfl, by simp only [List.length_append, ΦR, ΦS]; omega, .inr (Nat.zero_le _), ?_⟩
          try simp (maxSteps := 1000000) only [upd_app, Φa, Φb, Φc, ev, Φd, Φe, Φf, Φg, Φh, Φi, Φj, Φk, reduceIte, reduceCtorEq, if_true, if_false, Φl, Φm, Φn, Φo, true_and, and_true, false_and, and_false, true_implies, forall_const, false_implies, ne_eq, not_true_eq_false, not_false_eq_true, decide_true, decide_false, Φp, and_self, true_or, or_true, dite_true, dite_false, Φq, Φr, decide_eq_true_eq, decide_eq_false_iff_not, Φs, Φt, Φu, Φv, beq_self_eq_true, Φw, Φx, Φy, Φz, ΦA, eq_self, VCplan, less_refl_t, less_drop_t, VCops, VQops, guardVC, putVC, VC, VQ, ΦB, ΦC, ΦD, ΦE, ΦF, ΦG, ΦH, List.getElem?_cons_zero, List.getElem?_cons_succ, List.getElem?_nil, List.getElem?_toArray, ΦI, List.map_nil, ΦJ, ΦK, ΦL, ΦM, ΦN, ΦO, ΦP, ΦQ, ΦR, ΦS, ΦT, ΦU, ΦV, ΦW, ΦX, ΦY, ΦZ, Nat.reduceLT, Ψa, Ψb, Ψc, Ψd, Ψe, Nat.zero_add, Ψf, exists_eq_left, exists_eq_left', exists_const, existsSome, Nat.zero_le, Nat.le_refl, ia_slice, ia_arr, Addr.add_lit, Addr.add_zero', add_addS, Int.toNat_natCast, Int.toNat_zero, Int.toNat_one, Int.reduceToNat, T.elS_35, T.szA_35, T.zr_35, Try.underlying35, st_ptr, storeVC, setN, cells_int, cells_bool, cells_string, cells_pointer, cells_slice, cells_agg, oneB_nil, oneB_cons, one_int, one_bool, one_string, one_pointer, one_slice, one_map, one_func, one_nilFunc, one_nilIface, one_iface, cells_map, cells_func, cells_nilFunc, cells_nilIface, cells_iface, T.szA_3, T.zr_3, Try.underlying3, hP, h5_6, h5_3, h5_4, h5_5, hA1_, Int.toNat_natCast]
          rw [hset]
          refine hK21 _ _ ?_
          try clear hK21 K21
          refine SX.region ?_
          simp (maxSteps := 1000000) only [upd_app, Φa, Φb, Φc, ev, Φd, Φe, Φf, Φg, Φh, Φi, Φj, Φk, reduceIte, reduceCtorEq, if_true, if_false, Φl, Φm, Φn, Φo, true_and, and_true, false_and, and_false, true_implies, forall_const, false_implies, ne_eq, not_true_eq_false, not_false_eq_true, decide_true, decide_false, Φp, and_self, true_or, or_true, dite_true, dite_false, Φq, Φr, decide_eq_true_eq, decide_eq_false_iff_not, Φs, Φt, Φu, Φv, beq_self_eq_true, Φw, Φx, Φy, Φz, ΦA, eq_self, VCplan, less_refl_t, less_drop_t, VCops, VQops, guardVC, putVC, VC, VQ, ΦB, ΦC, ΦD, ΦE, ΦF, ΦG, ΦH, List.getElem?_cons_zero, List.getElem?_cons_succ, List.getElem?_nil, List.getElem?_toArray, ΦI, List.map_nil, ΦJ, ΦK, ΦL, ΦM, ΦN, ΦO, ΦP, ΦQ, ΦR, ΦS, ΦT, ΦU, ΦV, ΦW, ΦX, ΦY, ΦZ, Nat.reduceLT, Ψa, Ψb, Ψc, Ψd, Ψe, Nat.zero_add, Ψf, exists_eq_left, exists_eq_left', exists_const, existsSome, Nat.zero_le, Nat.le_refl, bin_add, bin_adds, hP, h5_6, h5_3, h5_4, h5_5]
          refine hK17 ((i + 1), (l1.set i (-1)), (some (g, .cells ((l1.set i (-1)).flatMap c1 ++ junk).toArray 3 (0, 0)))) _ (sw :: sb :: ((some (g, .cells ((l1.set i (-1)).flatMap c1 ++ junk).toArray 3 (0, 0)))) :: L) _ (by first | exact Less.refl _ | exact Less.drop _ _ | exact Less.drops (Less.drop _ _) | exact Less.drops (Less.drops (Less.drop _ _)) | exact Less.drops (Less.drops (Less.drops (Less.drop _ _))) | exact Less.drops (Less.drops (Less.drops (Less.drops (Less.drop _ _))))) ?_ ?_
          · try dsimp only
            refine ⟨?_, ?_, ?_, ?_, ?_, ?_⟩
            · simp (maxSteps := 1000000) only [upd_app, Φa, Φb, Φc, ev, Φd, Φe, Φf, Φg, Φh, Φi, Φj, Φk, reduceIte, reduceCtorEq, if_true, if_false, Φl, Φm, Φn, Φo, true_and, and_true, false_and, and_false, true_implies, forall_const, false_implies, ne_eq, not_true_eq_false, not_false_eq_true, decide_true, decide_false, Φp, and_self, true_or, or_true, dite_true, dite_false, Φq, Φr, decide_eq_true_eq, decide_eq_false_iff_not, Φs, Φt, Φu, Φv, beq_self_eq_true, Φw, Φx, Φy, Φz, ΦA, eq_self, hP, h5_6, h5_3, h5_4, h5_5]
              rw [inc64 (by omega)]
            · simp (maxSteps := 1000000) only [upd_app, Φa, Φb, Φc, ev, Φd, Φe, Φf, Φg, Φh, Φi, Φj, Φk, reduceIte, reduceCtorEq, if_true, if_false, Φl, Φm, Φn, Φo, true_and, and_true, false_and, and_false, true_implies, forall_const, false_implies, ne_eq, not_true_eq_false, not_false_eq_true, decide_true, decide_false, Φp, and_self, true_or, or_true, dite_true, dite_false, Φq, Φr, decide_eq_true_eq, decide_eq_false_iff_not, Φs, Φt, Φu, Φv, beq_self_eq_true, Φw, Φx, Φy, Φz, ΦA, eq_self, hP, h5_6, h5_3, h5_4, h5_5]
            · simp (maxSteps := 1000000) only [upd_app, Φa, Φb, Φc, ev, Φd, Φe, Φf, Φg, Φh, Φi, Φj, Φk, reduceIte, reduceCtorEq, if_true, if_false, Φl, Φm, Φn, Φo, true_and, and_true, false_and, and_false, true_implies, forall_const, false_implies, ne_eq, not_true_eq_false, not_false_eq_true, decide_true, decide_false, Φp, and_self, true_or, or_true, dite_true, dite_false, Φq, Φr, decide_eq_true_eq, decide_eq_false_iff_not, Φs, Φt, Φu, Φv, beq_self_eq_true, Φw, Φx, Φy, Φz, ΦA, eq_self, hP, h5_6, h5_3, h5_4, h5_5]
            · simp (maxSteps := 1000000) only [upd_app, Φa, Φb, Φc, ev, Φd, Φe, Φf, Φg, Φh, Φi, Φj, Φk, reduceIte, reduceCtorEq, if_true, if_false, Φl, Φm, Φn, Φo, true_and, and_true, false_and, and_false, true_implies, forall_const, false_implies, ne_eq, not_true_eq_false, not_false_eq_true, decide_true, decide_false, Φp, and_self, true_or, or_true, dite_true, dite_false, Φq, Φr, decide_eq_true_eq, decide_eq_false_iff_not, Φs, Φt, Φu, Φv, beq_self_eq_true, Φw, Φx, Φy, Φz, ΦA, eq_self, hP, h5_6, h5_3, h5_4, h5_5]
            · rfl
            · have hmk := RowL.mk (e := 3) (g := g) (cap := cap) (junk := junk) (l := l1.set i (-1)) c1_len (by rw [List.length_set]; exact hcap) (by rw [List.length_append, flat_len c1_len, List.length_set, ← flat_len c1_len, ← List.length_append]; exact hjl)
              rw [List.length_set, hl1, ← hA1_, ← hk1_] at hmk
              exact ⟨by omega, hmk, by rw [List.length_set]; exact hl1⟩
          · (try dsimp only); omega
        · clear hX20 hY20 X20 Y20
          refine SX.exit ?_
          try simp only [Φd, Φe, Φf, Φg, Φh, Φi, Φj, if_true, if_false, reduceIte]
          refine hK15 _ _ ?_
          try clear hK15 K15
          refine SX.seq_k fun K22 hK22 => ?_
          refine SX.region ?_
          simp (maxSteps := 1000000) only [upd_app, Φa, Φb, Φc, ev, Φd, Φe, Φf, Φg, Φh, Φi, Φj, Φk, reduceIte, reduceCtorEq, if_true, if_false, Φl, Φm, Φn, Φo, true_and, and_true, false_and, and_false, true_implies, forall_const, false_implies, ne_eq, not_true_eq_false, not_false_eq_true, decide_true, decide_false, Φp, and_self, true_or, or_true, dite_true, dite_false, Φq, Φr, decide_eq_true_eq, decide_eq_false_iff_not, Φs, Φt, Φu, Φv, beq_self_eq_true, Φw, Φx, Φy, Φz, ΦA, eq_self, VCplan, less_refl_t, less_drop_t, VCops, VQops, guardVC, putVC, VC, VQ, ΦB, ΦC, ΦD, ΦE, ΦF, ΦG, ΦH, List.getElem?_cons_zero, List.getElem?_cons_succ, List.getElem?_nil, List.getElem?_toArray, ΦI, List.map_nil, ΦJ, ΦK, ΦL, ΦM, ΦN, ΦO, ΦP, ΦQ, ΦR, ΦS, ΦT, ΦU, ΦV, ΦW, ΦX, ΦY, ΦZ, Nat.reduceLT, Ψa, Ψb, Ψc, Ψd, Ψe, Nat.zero_add, Ψf, exists_eq_left, exists_eq_left', exists_const, existsSome, Nat.zero_le, Nat.le_refl, hP, h5_6, h5_3, h5_4, h5_5]
          refine hK22 _ _ ?_
          try clear hK22 K22
          refine SX.seq_k fun K23 hK23 => ?_
          refine SX.region ?_
          simp (maxSteps := 1000000) only [upd_app, Φa, Φb, Φc, ev, Φd, Φe, Φf, Φg, Φh, Φi, Φj, Φk, reduceIte, reduceCtorEq, if_true, if_false, Φl, Φm, Φn, Φo, true_and, and_true, false_and, and_false, true_implies, forall_const, false_implies, ne_eq, not_true_eq_false, not_false_eq_true, decide_true, decide_false, Φp, and_self, true_or, or_true, dite_true, dite_false, Φq, Φr, decide_eq_true_eq, decide_eq_false_iff_not, Φs, Φt, Φu, Φv, beq_self_eq_true, Φw, Φx, Φy, Φz, ΦA, eq_self, VCplan, less_refl_t, less_drop_t, VCops, VQops, guardVC, putVC, VC, VQ, ΦB, ΦC, ΦD, ΦE, ΦF, ΦG, ΦH, List.getElem?_cons_zero, List.getElem?_cons_succ, List.getElem?_nil, List.getElem?_toArray, ΦI, List.map_nil, ΦJ, ΦK, ΦL, ΦM, ΦN, ΦO, ΦP, ΦQ, ΦR, ΦS, ΦT, ΦU, ΦV, ΦW, ΦX, ΦY, ΦZ, Nat.reduceLT, Ψa, Ψb, Ψc, Ψd, Ψe, Nat.zero_add, Ψf, exists_eq_left, exists_eq_left', exists_const, existsSome, Nat.zero_le, Nat.le_refl, hP, h5_6, h5_3, h5_4, h5_5]
          refine hK23 _ _ ?_
          try clear hK23 K23
          refine SX.seq_k fun K24 hK24 => ?_
          refine SX.seq_k fun K25 hK25 => ?_
          refine SX.region ?_
          simp (maxSteps := 1000000) only [upd_app, Φa, Φb, Φc, ev, Φd, Φe, Φf, Φg, Φh, Φi, Φj, Φk, reduceIte, reduceCtorEq, if_true, if_false, Φl, Φm, Φn, Φo, true_and, and_true, false_and, and_false, true_implies, forall_const, false_implies, ne_eq, not_true_eq_false, not_false_eq_true, decide_true, decide_false, Φp, and_self, true_or, or_true, dite_true, dite_false, Φq, Φr, decide_eq_true_eq, decide_eq_false_iff_not, Φs, Φt, Φu, Φv, beq_self_eq_true, Φw, Φx, Φy, Φz, ΦA, eq_self, VCplan, less_refl_t, less_drop_t, VCops, VQops, guardVC, putVC, VC, VQ, ΦB, ΦC, ΦD, ΦE, ΦF, ΦG, ΦH, List.getElem?_cons_zero, List.getElem?_cons_succ, List.getElem?_nil, List.getElem?_toArray, ΦI, List.map_nil, ΦJ, ΦK, ΦL, ΦM, ΦN, ΦO, ΦP, ΦQ, ΦR, ΦS, ΦT, ΦU, ΦV, ΦW, ΦX, ΦY, ΦZ, Nat.reduceLT, Ψa, Ψb, Ψc, Ψd, Ψe, Nat.zero_add, Ψf, exists_eq_left, exists_eq_left', exists_const, existsSome, Nat.zero_le, Nat.le_refl, hP, h5_6, h5_3, h5_4, h5_5]
          refine hK25 _ _ ?_
          try clear hK25 K25
          refine SX.live [4, 5, 7, 8, 9] (fun T6 hT6 => ?_)
          simp only [forall_mem_cons', forall_mem_nil', upd_app, Φa, Φb, Φc, ev, Φd, Φe, Φf, Φg, Φh, Φi, Φj, Φk, reduceIte, reduceCtorEq, if_true, if_false, Φl, Φm, Φn, Φo, true_and, and_true, false_and, and_false, true_implies, forall_const, false_implies, ne_eq, not_true_eq_false, not_false_eq_true, decide_true, decide_false, Φp, and_self, true_or, or_true, dite_true, dite_false, Φq, Φr, decide_eq_true_eq, decide_eq_false_iff_not, Φs, Φt, Φu, Φv, beq_self_eq_true, Φw, Φx, Φy, Φz, ΦA, eq_self, hP, h5_6, h5_3, h5_4, h5_5] at hT6
          obtain ⟨h6_4, h6_5, h6_7, h6_8, h6_9⟩ := hT6
          clear h5_6 h5_3 h5_4 h5_5 T5
          refine SX.block ?_
          refine SX.less (L' := sw :: sb :: none :: s1 :: L) (Less.mid2 _ _ _) ?_
          refine SX.live [4, 5, 7, 8, 9] (fun T7 hT7 => ?_)
          simp only [forall_mem_cons', forall_mem_nil', upd_app, Φa, Φb, Φc, ev, Φd, Φe, Φf, Φg, Φh, Φi, Φj, Φk, reduceIte, reduceCtorEq, if_true, if_false, Φl, Φm, Φn, Φo, true_and, and_true, false_and, and_false, true_implies, forall_const, false_implies, ne_eq, not_true_eq_false, not_false_eq_true, decide_true, decide_false, Φp, and_self, true_or, or_true, dite_true, dite_false, Φq, Φr, decide_eq_true_eq, decide_eq_false_iff_not, Φs, Φt, Φu, Φv, beq_self_eq_true, Φw, Φx, Φy, Φz, ΦA, eq_self, hP, h6_4, h6_5, h6_7, h6_8, h6_9] at hT7
          obtain ⟨h7_4, h7_5, h7_7, h7_8, h7_9⟩ := hT7
          clear h6_4 h6_5 h6_7 h6_8 h6_9 T6
          refine SX.loop_k (fun (ss : (Nat) × (Value) × (Slot) × (Value) × (Slot) × (Slot)) T L' => (fun (j : Nat) (vx : Value) (sx : Slot) (vy : Value) (sy : Slot) (t : Slot) => T 7 = vx ∧ T 8 = vy ∧ T 9 = .int .i64 (j : Int) ∧ T 4 = T7 4 ∧ T 5 = T7 5 ∧ L' = sw :: sy :: t :: sx :: L ∧ (j ≤ 20 ∧ RowL c1 3 1 vx (l1 ++ List.replicate j (-2)) sx ∧ RowL c1 3 1 vy (la ++ List.replicate j (-3)) sy ∧ View c1 3 (.slice A2 la.length k2) la vy t (la ++ List.replicate j (-3)).length ((la ++ List.replicate j (-3)).flatMap c1))) (ss.1) (ss.2.1) (ss.2.2.1) (ss.2.2.2.1) (ss.2.2.2.2.1) (ss.2.2.2.2.2)) (fun (ss : (Nat) × (Value) × (Slot) × (Value) × (Slot) × (Slot)) => (fun (j : Nat) (vx : Value) (sx : Slot) (vy : Value) (sy : Slot) (t : Slot) => 20 - j) (ss.1) (ss.2.1) (ss.2.2.1) (ss.2.2.2.1) (ss.2.2.2.2.1) (ss.2.2.2.2.2)) (0, .slice A1 la.length k1, s1, .slice A2 la.length k2, sb, none) ?_ ?_
          · try dsimp only
            refine ⟨?_, ?_, ?_, ?_, ?_, ?_, ?_⟩
            · first | exact h7_7 | (rw [h7_7]; rfl) | (rw [h7_7]; simp; done)
            · first | exact h7_8 | (rw [h7_8]; rfl) | (rw [h7_8]; simp; done)
            · first | exact h7_9 | (rw [h7_9]; rfl) | (rw [h7_9]; simp; done)
            · rfl
            · rfl
            · rfl
            · refine ⟨by omega, ?_, ?_, ?_⟩
              · rw [List.replicate_zero, List.append_nil, ← hl1] ; rw [← hl1] at hr1; exact hr1
              · rw [List.replicate_zero, List.append_nil]; exact hrb
              · rw [List.replicate_zero, List.append_nil]; exact View.self hrb
          · intro ss T8 L8 hI K26 hK26
            obtain ⟨j, vx, sx, vy, sy, t⟩ := ss
            try dsimp only at hI hK26
            simp only [h7_4, h7_5] at hI hK26
            obtain ⟨h8_7, h8_8, h8_9, h8_4, h8_5, hL8, ⟨hj, hrx, hry, hV⟩⟩ := hI
            replace hL8 := hL8.symm
            subst hL8
            clear h7_4 h7_5 h7_7 h7_8 h7_9 T7
            refine SX.seq_k fun K27 hK27 => ?_
            refine SX.seq_k fun K28 hK28 => ?_
            refine SX.region ?_
            simp (maxSteps := 1000000) only [upd_app, Φa, Φb, Φc, ev, Φd, Φe, Φf, Φg, Φh, Φi, Φj, Φk, reduceIte, reduceCtorEq, if_true, if_false, Φl, Φm, Φn, Φo, true_and, and_true, false_and, and_false, true_implies, forall_const, false_implies, ne_eq, not_true_eq_false, not_false_eq_true, decide_true, decide_false, Φp, and_self, true_or, or_true, dite_true, dite_false, Φq, Φr, decide_eq_true_eq, decide_eq_false_iff_not, Φs, Φt, Φu, Φv, beq_self_eq_true, Φw, Φx, Φy, Φz, ΦA, eq_self, VCplan, less_refl_t, less_drop_t, VCops, VQops, guardVC, putVC, VC, VQ, ΦB, ΦC, ΦD, ΦE, ΦF, ΦG, ΦH, List.getElem?_cons_zero, List.getElem?_cons_succ, List.getElem?_nil, List.getElem?_toArray, ΦI, List.map_nil, ΦJ, ΦK, ΦL, ΦM, ΦN, ΦO, ΦP, ΦQ, ΦR, ΦS, ΦT, ΦU, ΦV, ΦW, ΦX, ΦY, ΦZ, Nat.reduceLT, Ψa, Ψb, Ψc, Ψd, Ψe, Nat.zero_add, Ψf, exists_eq_left, exists_eq_left', exists_const, existsSome, Nat.zero_le, Nat.le_refl, bin_lss, hP, h8_7, h8_8, h8_9, h8_4, h8_5]
            refine hK28 _ _ ?_
            try clear hK28 K28
            refine SX.cond_k fun X29 Y29 hX29 hY29 => ?_
            simp (maxSteps := 1000000) only [upd_app, Φa, Φb, Φc, ev, Φd, Φe, Φf, Φg, Φh, Φi, Φj, Φk, reduceIte, reduceCtorEq, if_true, if_false, Φl, Φm, Φn, Φo, true_and, and_true, false_and, and_false, true_implies, forall_const, false_implies, ne_eq, not_true_eq_false, not_false_eq_true, decide_true, decide_false, Φp, and_self, true_or, or_true, dite_true, dite_false, Φq, Φr, decide_eq_true_eq, decide_eq_false_iff_not, Φs, Φt, Φu, Φv, beq_self_eq_true, Φw, Φx, Φy, Φz, ΦA, eq_self, hP, h8_7, h8_8, h8_9, h8_4, h8_5, condVC]
            refine ⟨fun hc42 => hX29 ?_, fun hc42 => hY29 ?_⟩
            · clear hX29 hY29 X29 Y29
              refine SX.skip ?_
              try simp only [Φd, Φe, Φf, Φg, Φh, Φi, Φj, if_true, if_false, reduceIte]
              refine hK27 _ _ ?_
              try clear hK27 K27
              refine SX.seq_k fun K30 hK30 => ?_
              refine SX.block ?_
              refine SX.seq_k fun K31 hK31 => ?_
              refine SX.region ?_
              simp (maxSteps := 1000000) only [upd_app, Φa, Φb, Φc, ev, Φd, Φe, Φf, Φg, Φh, Φi, Φj, Φk, reduceIte, reduceCtorEq, if_true, if_false, Φl, Φm, Φn, Φo, true_and, and_true, false_and, and_false, true_implies, forall_const, false_implies, ne_eq, not_true_eq_false, not_false_eq_true, decide_true, decide_false, Φp, and_self, true_or, or_true, dite_true, dite_false, Φq, Φr, decide_eq_true_eq, decide_eq_false_iff_not, Φs, Φt, Φu, Φv, beq_self_eq_true, Φw, Φx, Φy, Φz, ΦA, eq_self, VCplan, less_refl_t, less_drop_t, VCops, VQops, guardVC, putVC, VC, VQ, ΦB, ΦC, ΦD, ΦE, ΦF, ΦG, ΦH, List.getElem?_cons_zero, List.getElem?_cons_succ, List.getElem?_nil, List.getElem?_toArray, ΦI, List.map_nil, ΦJ, ΦK, ΦL, ΦM, ΦN, ΦO, ΦP, ΦQ, ΦR, ΦS, ΦT, ΦU, ΦV, ΦW, ΦX, ΦY, ΦZ, Nat.reduceLT, Ψa, Ψb, Ψc, Ψd, Ψe, Nat.zero_add, Ψf, exists_eq_left, exists_eq_left', exists_const, existsSome, Nat.zero_le, Nat.le_refl, partVC, buildVC, placeL, fillL, setN, inOrd, catV, cells_int, cells_bool, cells_string, cells_pointer, cells_slice, cells_agg, oneB_nil, oneB_cons, one_int, one_bool, one_string, one_pointer, one_slice, one_map, one_func, one_nilFunc, one_nilIface, one_iface, cells_map, cells_func, cells_nilFunc, cells_nilIface, cells_iface, T.elS_35, T.szA_35, T.zr_35, Try.underlying35, T.szA_3, T.zr_3, Try.underlying3, qcall_f, call_f, len_slice, len_str, cap_slice, min_int, max_int, hP, h8_7, h8_8, h8_9, h8_4, h8_5]
              intro b1
              refine YAppend.rowL (z := [.int .i64 0]) (f := c1) (x := (-2)) (i := 3) (hP ▸ T.elS_35) (hP ▸ T.zr_3) rfl rfl rfl rfl hrx (by rw [List.length_append, List.length_replicate]; omega) (by decide) (fun vx2 sx2 hrx2 => ?_)
              try simp (maxSteps := 1000000) only [upd_app, Φa, Φb, Φc, ev, Φd, Φe, Φf, Φg, Φh, Φi, Φj, Φk, reduceIte, reduceCtorEq, if_true, if_false, Φl, Φm, Φn, Φo, true_and, and_true, false_and, and_false, true_implies, forall_const, false_implies, ne_eq, not_true_eq_false, not_false_eq_true, decide_true, decide_false, Φp, and_self, true_or, or_true, dite_true, dite_false, Φq, Φr, decide_eq_true_eq, decide_eq_false_iff_not, Φs, Φt, Φu, Φv, beq_self_eq_true, Φw, Φx, Φy, Φz, ΦA, eq_self, VCplan, less_refl_t, less_drop_t, VCops, VQops, guardVC, putVC, VC, VQ, ΦB, ΦC, ΦD, ΦE, ΦF, ΦG, ΦH, List.getElem?_cons_zero, List.getElem?_cons_succ, List.getElem?_nil, List.getElem?_toArray, ΦI, List.map_nil, ΦJ, ΦK, ΦL, ΦM, ΦN, ΦO, ΦP, ΦQ, ΦR, ΦS, ΦT, ΦU, ΦV, ΦW, ΦX, ΦY, ΦZ, Nat.reduceLT, Ψa, Ψb, Ψc, Ψd, Ψe, Nat.zero_add, Ψf, exists_eq_left, exists_eq_left', exists_const, existsSome, Nat.zero_le, Nat.le_refl, partVC, buildVC, placeL, fillL, setN, inOrd, catV, cells_int, cells_bool, cells_string, cells_pointer, cells_slice, cells_agg, oneB_nil, oneB_cons, one_int, one_bool, one_string, one_pointer, one_slice, one_map, one_func, one_nilFunc, one_nilIface, one_iface, cells_map, cells_func, cells_nilFunc, cells_nilIface, cells_iface, T.elS_35, T.szA_35, T.zr_35, Try.underlying35, T.szA_3, T.zr_3, Try.underlying3, qcall_f, call_f, len_slice, len_str, cap_slice, min_int, max_int, hP, h8_7, h8_8, h8_9, h8_4, h8_5]
              refine hK31 _ _ ?_
              try clear hK31 K31
              refine SX.region ?_
              simp (maxSteps := 1000000) only [upd_app, Φa, Φb, Φc, ev, Φd, Φe, Φf, Φg, Φh, Φi, Φj, Φk, reduceIte, reduceCtorEq, if_true, if_false, Φl, Φm, Φn, Φo, true_and, and_true, false_and, and_false, true_implies, forall_const, false_implies, ne_eq, not_true_eq_false, not_false_eq_true, decide_true, decide_false, Φp, and_self, true_or, or_true, dite_true, dite_false, Φq, Φr, decide_eq_true_eq, decide_eq_false_iff_not, Φs, Φt, Φu, Φv, beq_self_eq_true, Φw, Φx, Φy, Φz, ΦA, eq_self, VCplan, less_refl_t, less_drop_t, VCops, VQops, guardVC, putVC, VC, VQ, ΦB, ΦC, ΦD, ΦE, ΦF, ΦG, ΦH, List.getElem?_cons_zero, List.getElem?_cons_succ, List.getElem?_nil, List.getElem?_toArray, ΦI, List.map_nil, ΦJ, ΦK, ΦL, ΦM, ΦN, ΦO, ΦP, ΦQ, ΦR, ΦS, ΦT, ΦU, ΦV, ΦW, ΦX, ΦY, ΦZ, Nat.reduceLT, Ψa, Ψb, Ψc, Ψd, Ψe, Nat.zero_add, Ψf, exists_eq_left, exists_eq_left', exists_const, existsSome, Nat.zero_le, Nat.le_refl, partVC, buildVC, placeL, fillL, setN, inOrd, catV, cells_int, cells_bool, cells_string, cells_pointer, cells_slice, cells_agg, oneB_nil, oneB_cons, one_int, one_bool, one_string, one_pointer, one_slice, one_map, one_func, one_nilFunc, one_nilIface, one_iface, cells_map, cells_func, cells_nilFunc, cells_nilIface, cells_iface, T.elS_35, T.szA_35, T.zr_35, Try.underlying35, T.szA_3, T.zr_3, Try.underlying3, qcall_f, call_f, len_slice, len_str, cap_slice, min_int, max_int, hP, h8_7, h8_8, h8_9, h8_4, h8_5]
              intro b2
              refine YAppend.rowV1 (z := [.int .i64 0]) (f := c1) (x := (-3)) (hP ▸ T.elS_35) (hP ▸ T.zr_3) rfl rfl rfl hry hV (by rw [List.length_append, List.length_replicate]; omega) (by decide) (fun vy2 sy2 t2 hry2 hV2 => ?_)
              try simp (maxSteps := 1000000) only [upd_app, Φa, Φb, Φc, ev, Φd, Φe, Φf, Φg, Φh, Φi, Φj, Φk, reduceIte, reduceCtorEq, if_true, if_false, Φl, Φm, Φn, Φo, true_and, and_true, false_and, and_false, true_implies, forall_const, false_implies, ne_eq, not_true_eq_false, not_false_eq_true, decide_true, decide_false, Φp, and_self, true_or, or_true, dite_true, dite_false, Φq, Φr, decide_eq_true_eq, decide_eq_false_iff_not, Φs, Φt, Φu, Φv, beq_self_eq_true, Φw, Φx, Φy, Φz, ΦA, eq_self, VCplan, less_refl_t, less_drop_t, VCops, VQops, guardVC, putVC, VC, VQ, ΦB, ΦC, ΦD, ΦE, ΦF, ΦG, ΦH, List.getElem?_cons_zero, List.getElem?_cons_succ, List.getElem?_nil, List.getElem?_toArray, ΦI, List.map_nil, ΦJ, ΦK, ΦL, ΦM, ΦN, ΦO, ΦP, ΦQ, ΦR, ΦS, ΦT, ΦU, ΦV, ΦW, ΦX, ΦY, ΦZ, Nat.reduceLT, Ψa, Ψb, Ψc, Ψd, Ψe, Nat.zero_add, Ψf, exists_eq_left, exists_eq_left', exists_const, existsSome, Nat.zero_le, Nat.le_refl, partVC, buildVC, placeL, fillL, setN, inOrd, catV, cells_int, cells_bool, cells_string, cells_pointer, cells_slice, cells_agg, oneB_nil, oneB_cons, one_int, one_bool, one_string, one_pointer, one_slice, one_map, one_func, one_nilFunc, one_nilIface, one_iface, cells_map, cells_func, cells_nilFunc, cells_nilIface, cells_iface, T.elS_35, T.szA_35, T.zr_35, Try.underlying35, T.szA_3, T.zr_3, Try.underlying3, qcall_f, call_f, len_slice, len_str, cap_slice, min_int, max_int, hP, h8_7, h8_8, h8_9, h8_4, h8_5]
              refine hK30 _ _ ?_
              try clear hK30 K30
              refine SX.live [4, 5, 7, 8, 9] (fun T9 hT9 => ?_)
              simp only [forall_mem_cons', forall_mem_nil', upd_app, Φa, Φb, Φc, ev, Φd, Φe, Φf, Φg, Φh, Φi, Φj, Φk, reduceIte, reduceCtorEq, if_true, if_false, Φl, Φm, Φn, Φo, true_and, and_true, false_and, and_false, true_implies, forall_const, false_implies, ne_eq, not_true_eq_false, not_false_eq_true, decide_true, decide_false, Φp, and_self, true_or, or_true, dite_true, dite_false, Φq, Φr, decide_eq_true_eq, decide_eq_false_iff_not, Φs, Φt, Φu, Φv, beq_self_eq_true, Φw, Φx, Φy, Φz, ΦA, eq_self, hP, h8_7, h8_8, h8_9, h8_4, h8_5] at hT9
              obtain ⟨h9_4, h9_5, h9_7, h9_8, h9_9⟩ := hT9
              clear h8_7 h8_8 h8_9 h8_4 h8_5 T8
              refine SX.region ?_
              simp (maxSteps := 1000000) only [upd_app, Φa, Φb, Φc, ev, Φd, Φe, Φf, Φg, Φh, Φi, Φj, Φk, reduceIte, reduceCtorEq, if_true, if_false, Φl, Φm, Φn, Φo, true_and, and_true, false_and, and_false, true_implies, forall_const, false_implies, ne_eq, not_true_eq_false, not_false_eq_true, decide_true, decide_false, Φp, and_self, true_or, or_true, dite_true, dite_false, Φq, Φr, decide_eq_true_eq, decide_eq_false_iff_not, Φs, Φt, Φu, Φv, beq_self_eq_true, Φw, Φx, Φy, Φz, ΦA, eq_self, VCplan, less_refl_t, less_drop_t, VCops, VQops, guardVC, putVC, VC, VQ, ΦB, ΦC, ΦD, ΦE, ΦF, ΦG, ΦH, List.getElem?_cons_zero, List.getElem?_cons_succ, List.getElem?_nil, List.getElem?_toArray, ΦI, List.map_nil, ΦJ, ΦK, ΦL, ΦM, ΦN, ΦO, ΦP, ΦQ, ΦR, ΦS, ΦT, ΦU, ΦV, ΦW, ΦX, ΦY, ΦZ, Nat.reduceLT, Ψa, Ψb, Ψc, Ψd, Ψe, Nat.zero_add, Ψf, exists_eq_left, exists_eq_left', exists_const, existsSome, Nat.zero_le, Nat.le_refl, bin_add, bin_adds, hP, h9_4, h9_5, h9_7, h9_8, h9_9]
              refine hK26 ((j + 1), vx2, sx2, vy2, sy2, t2) _ (sw :: sy2 :: t2 :: sx2 :: L) _ (by first | exact Less.refl _ | exact Less.drop _ _ | exact Less.drops (Less.drop _ _) | exact Less.drops (Less.drops (Less.drop _ _)) | exact Less.drops (Less.drops (Less.drops (Less.drop _ _))) | exact Less.drops (Less.drops (Less.drops (Less.drops (Less.drop _ _))))) ?_ ?_
              · try dsimp only
                refine ⟨?_, ?_, ?_, ?_, ?_, ?_, ?_⟩
                · simp (maxSteps := 1000000) only [upd_app, Φa, Φb, Φc, ev, Φd, Φe, Φf, Φg, Φh, Φi, Φj, Φk, reduceIte, reduceCtorEq, if_true, if_false, Φl, Φm, Φn, Φo, true_and, and_true, false_and, and_false, true_implies, forall_const, false_implies, ne_eq, not_true_eq_false, not_false_eq_true, decide_true, decide_false, Φp, and_self, true_or, or_true, dite_true, dite_false, Φq, Φr, decide_eq_true_eq, decide_eq_false_iff_not, Φs, Φt, Φu, Φv, beq_self_eq_true, Φw, Φx, Φy, Φz, ΦA, eq_self, hP, h9_4, h9_5, h9_7, h9_8, h9_9]
                  first | done | rfl | skip
                · simp (maxSteps := 1000000) only [upd_app, Φa, Φb, Φc, ev, Φd, Φe, Φf, Φg, Φh, Φi, Φj, Φk, reduceIte, reduceCtorEq, if_true, if_false, Φl, Φm, Φn, Φo, true_and, and_true, false_and, and_false, true_implies, forall_const, false_implies, ne_eq, not_true_eq_false, not_false_eq_true, decide_true, decide_false, Φp, and_self, true_or, or_true, dite_true, dite_false, Φq, Φr, decide_eq_true_eq, decide_eq_false_iff_not, Φs, Φt, Φu, Φv, beq_self_eq_true, Φw, Φx, Φy, Φz, ΦA, eq_self, hP, h9_4, h9_5, h9_7, h9_8, h9_9]
                  first | done | rfl | skip
                · simp (maxSteps := 1000000) only [upd_app, Φa, Φb, Φc, ev, Φd, Φe, Φf, Φg, Φh, Φi, Φj, Φk, reduceIte, reduceCtorEq, if_true, if_false, Φl, Φm, Φn, Φo, true_and, and_true, false_and, and_false, true_implies, forall_const, false_implies, ne_eq, not_true_eq_false, not_false_eq_true, decide_true, decide_false, Φp, and_self, true_or, or_true, dite_true, dite_false, Φq, Φr, decide_eq_true_eq, decide_eq_false_iff_not, Φs, Φt, Φu, Φv, beq_self_eq_true, Φw, Φx, Φy, Φz, ΦA, eq_self, hP, h9_4, h9_5, h9_7, h9_8, h9_9]
                  rw [inc64 (by omega)]
                · simp (maxSteps := 1000000) only [upd_app, Φa, Φb, Φc, ev, Φd, Φe, Φf, Φg, Φh, Φi, Φj, Φk, reduceIte, reduceCtorEq, if_true, if_false, Φl, Φm, Φn, Φo, true_and, and_true, false_and, and_false, true_implies, forall_const, false_implies, ne_eq, not_true_eq_false, not_false_eq_true, decide_true, decide_false, Φp, and_self, true_or, or_true, dite_true, dite_false, Φq, Φr, decide_eq_true_eq, decide_eq_false_iff_not, Φs, Φt, Φu, Φv, beq_self_eq_true, Φw, Φx, Φy, Φz, ΦA, eq_self, hP, h9_4, h9_5, h9_7, h9_8, h9_9]
                · simp (maxSteps := 1000000) only [upd_app, Φa, Φb, Φc, ev, Φd, Φe, Φf, Φg, Φh, Φi, Φj, Φk, reduceIte, reduceCtorEq, if_true, if_false, Φl, Φm, Φn, Φo, true_and, and_true, false_and, and_false, true_implies, forall_const, false_implies, ne_eq, not_true_eq_false, not_false_eq_true, decide_true, decide_false, Φp, and_self, true_or, or_true, dite_true, dite_false, Φq, Φr, decide_eq_true_eq, decide_eq_false_iff_not, Φs, Φt, Φu, Φv, beq_self_eq_true, Φw, Φx, Φy, Φz, ΦA, eq_self, hP, h9_4, h9_5, h9_7, h9_8, h9_9]
                · rfl
                · refine ⟨by omega, ?_, ?_, ?_⟩
                  · rw [show List.replicate (j + 1) (-2) = List.replicate j (-2) ++ [(-2)] from List.replicate_succ']; rw [← List.append_assoc]; exact hrx2
                  · rw [show List.replicate (j + 1) (-3) = List.replicate j (-3) ++ [(-3)] from List.replicate_succ']; rw [← List.append_assoc]; exact hry2
                  · rw [show List.replicate (j + 1) (-3) = List.replicate j (-3) ++ [(-3)] from List.replicate_succ']; rw [← List.append_assoc]; exact hV2
              · (try dsimp only); omega
            · clear hX29 hY29 X29 Y29
              refine SX.exit ?_
              try simp only [Φd, Φe, Φf, Φg, Φh, Φi, Φj, if_true, if_false, reduceIte]
              refine hK24 _ _ ?_
              try clear hK24 K24
              refine SX.seq_k fun K32 hK32 => ?_
              refine SX.seq_k fun K33 hK33 => ?_
              obtain rfl : j = 20 := by omega
              obtain ⟨B1, m1, rfl, -, -⟩ := Row.form hrx
              obtain ⟨B2_, m2, rfl, -, -⟩ := Row.form hry
              have hlx : (l1 ++ List.replicate 20 (-2)).length = la.length + 20 := by rw [List.length_append, List.length_replicate, hl1]
              have hly : (la ++ List.replicate 20 (-3)).length = la.length + 20 := by rw [List.length_append, List.length_replicate]
              refine SX.region ?_
              simp (maxSteps := 1000000) only [upd_app, Φa, Φb, Φc, ev, Φd, Φe, Φf, Φg, Φh, Φi, Φj, Φk, reduceIte, reduceCtorEq, if_true, if_false, Φl, Φm, Φn, Φo, true_and, and_true, false_and, and_false, true_implies, forall_const, false_implies, ne_eq, not_true_eq_false, not_false_eq_true, decide_true, decide_false, Φp, and_self, true_or, or_true, dite_true, dite_false, Φq, Φr, decide_eq_true_eq, decide_eq_false_iff_not, Φs, Φt, Φu, Φv, beq_self_eq_true, Φw, Φx, Φy, Φz, ΦA, eq_self, VCplan, less_refl_t, less_drop_t, VCops, VQops, guardVC, putVC, VC, VQ, ΦB, ΦC, ΦD, ΦE, ΦF, ΦG, ΦH, List.getElem?_cons_zero, List.getElem?_cons_succ, List.getElem?_nil, List.getElem?_toArray, ΦI, List.map_nil, ΦJ, ΦK, ΦL, ΦM, ΦN, ΦO, ΦP, ΦQ, ΦR, ΦS, ΦT, ΦU, ΦV, ΦW, ΦX, ΦY, ΦZ, Nat.reduceLT, Ψa, Ψb, Ψc, Ψd, Ψe, Nat.zero_add, Ψf, exists_eq_left, exists_eq_left', exists_const, existsSome, Nat.zero_le, Nat.le_refl, qcall_f, call_f, len_slice, len_str, cap_slice, min_int, max_int, T.elS_35, T.szA_35, T.zr_35, Try.underlying35, hP, h8_7, h8_8, h8_9, h8_4, h8_5]
              refine hK33 _ _ ?_
              try clear hK33 K33
              refine SX.block ?_
              refine SX.live [4, 5, 7, 8, 10] (fun T10 hT10 => ?_)
              simp only [forall_mem_cons', forall_mem_nil', upd_app, Φa, Φb, Φc, ev, Φd, Φe, Φf, Φg, Φh, Φi, Φj, Φk, reduceIte, reduceCtorEq, if_true, if_false, Φl, Φm, Φn, Φo, true_and, and_true, false_and, and_false, true_implies, forall_const, false_implies, ne_eq, not_true_eq_false, not_false_eq_true, decide_true, decide_false, Φp, and_self, true_or, or_true, dite_true, dite_false, Φq, Φr, decide_eq_true_eq, decide_eq_false_iff_not, Φs, Φt, Φu, Φv, beq_self_eq_true, Φw, Φx, Φy, Φz, ΦA, eq_self, hP, h8_7, h8_8, h8_9, h8_4, h8_5] at hT10
              obtain ⟨h10_4, h10_5, h10_7, h10_8, h10_10⟩ := hT10
              clear h8_7 h8_8 h8_9 h8_4 h8_5 T8
              refine SX.loop_k (fun (ss : (Nat)) T L' => (fun (i : Nat) => T 10 = .int .i64 (i : Int) ∧ T 4 = T10 4 ∧ T 5 = T10 5 ∧ T 7 = T10 7 ∧ T 8 = T10 8 ∧ L' = sw :: sy :: t :: sx :: L ∧ (la.length ≤ i ∧ i ≤ la.length + 20)) (ss)) (fun (ss : (Nat)) => (fun (i : Nat) => la.length + 20 - i) (ss)) la.length ?_ ?_
              · try dsimp only
                refine ⟨?_, ?_, ?_, ?_, ?_, ?_, ?_⟩
                · first | exact h10_10 | (rw [h10_10]; rfl) | (rw [h10_10]; simp; done)
                · rfl
                · rfl
                · rfl
                · rfl
                · rfl
                · exact ⟨Nat.le_refl _, by omega⟩
              · intro i T11 L11 hI K34 hK34
                try dsimp only at hI hK34
                simp only [h10_4, h10_5, h10_7, h10_8] at hI hK34
                obtain ⟨h11_10, h11_4, h11_5, h11_7, h11_8, hL11, ⟨hi1, hi2⟩⟩ := hI
                replace hL11 := hL11.symm
                subst hL11
                clear h10_4 h10_5 h10_7 h10_8 h10_10 T10
                refine SX.seq_k fun K35 hK35 => ?_
                refine SX.seq_k fun K36 hK36 => ?_
                refine SX.region ?_
                simp (maxSteps := 1000000) only [upd_app, Φa, Φb, Φc, ev, Φd, Φe, Φf, Φg, Φh, Φi, Φj, Φk, reduceIte, reduceCtorEq, if_true, if_false, Φl, Φm, Φn, Φo, true_and, and_true, false_and, and_false, true_implies, forall_const, false_implies, ne_eq, not_true_eq_false, not_false_eq_true, decide_true, decide_false, Φp, and_self, true_or, or_true, dite_true, dite_false, Φq, Φr, decide_eq_true_eq, decide_eq_false_iff_not, Φs, Φt, Φu, Φv, beq_self_eq_true, Φw, Φx, Φy, Φz, ΦA, eq_self, VCplan, less_refl_t, less_drop_t, VCops, VQops, guardVC, putVC, VC, VQ, ΦB, ΦC, ΦD, ΦE, ΦF, ΦG, ΦH, List.getElem?_cons_zero, List.getElem?_cons_succ, List.getElem?_nil, List.getElem?_toArray, ΦI, List.map_nil, ΦJ, ΦK, ΦL, ΦM, ΦN, ΦO, ΦP, ΦQ, ΦR, ΦS, ΦT, ΦU, ΦV, ΦW, ΦX, ΦY, ΦZ, Nat.reduceLT, Ψa, Ψb, Ψc, Ψd, Ψe, Nat.zero_add, Ψf, exists_eq_left, exists_eq_left', exists_const, existsSome, Nat.zero_le, Nat.le_refl, qcall_f, call_f, len_slice, len_str, cap_slice, min_int, max_int, T.elS_35, T.szA_35, T.zr_35, Try.underlying35, bin_lss, hP, h11_10, h11_4, h11_5, h11_7, h11_8, hlx]
                refine hK36 _ _ ?_
                try clear hK36 K36
                refine SX.cond_k fun X37 Y37 hX37 hY37 => ?_
                simp (maxSteps := 1000000) only [upd_app, Φa, Φb, Φc, ev, Φd, Φe, Φf, Φg, Φh, Φi, Φj, Φk, reduceIte, reduceCtorEq, if_true, if_false, Φl, Φm, Φn, Φo, true_and, and_true, false_and, and_false, true_implies, forall_const, false_implies, ne_eq, not_true_eq_false, not_false_eq_true, decide_true, decide_false, Φp, and_self, true_or, or_true, dite_true, dite_false, Φq, Φr, decide_eq_true_eq, decide_eq_false_iff_not, Φs, Φt, Φu, Φv, beq_self_eq_true, Φw, Φx, Φy, Φz, ΦA, eq_self, hP, h11_10, h11_4, h11_5, h11_7, h11_8, condVC]
                refine ⟨fun hc56 => hX37 ?_, fun hc56 => hY37 ?_⟩
                · clear hX37 hY37 X37 Y37
                  refine SX.skip ?_
                  try simp only [Φd, Φe, Φf, Φg, Φh, Φi, Φj, if_true, if_false, reduceIte]
                  refine hK35 _ _ ?_
                  try clear hK35 K35
                  refine SX.seq_k fun K38 hK38 => ?_
                  refine SX.block ?_
                  refine SX.seq_k fun K39 hK39 => ?_
                  refine SX.region_x ?_
                  refine RX.live [4, 5, 7, 8, 10] (fun T12 hT12 => ?_)
                  simp only [forall_mem_cons', forall_mem_nil', upd_app, Φa, Φb, Φc, ev, Φd, Φe, Φf, Φg, Φh, Φi, Φj, Φk, reduceIte, reduceCtorEq, if_true, if_false, Φl, Φm, Φn, Φo, true_and, and_true, false_and, and_false, true_implies, forall_const, false_implies, ne_eq, not_true_eq_false, not_false_eq_true, decide_true, decide_false, Φp, and_self, true_or, or_true, dite_true, dite_false, Φq, Φr, decide_eq_true_eq, decide_eq_false_iff_not, Φs, Φt, Φu, Φv, beq_self_eq_true, Φw, Φx, Φy, Φz, ΦA, eq_self, hP, h11_10, h11_4, h11_5, h11_7, h11_8] at hT12
                  obtain ⟨h12_4, h12_5, h12_7, h12_8, h12_10⟩ := hT12
                  clear h11_10 h11_4 h11_5 h11_7 h11_8 T11
                  obtain ⟨_, _, e_, _, hAx⟩ := RowL.sl (Γ := Γ) (L := sw :: sy :: t :: sx :: L) (i := 3) c1_len hrx rfl
                  cases e_
                  obtain ⟨ax, hax, hRx⟩ := hAx i (-2) (by rw [List.getElem?_append_right (by omega), List.getElem?_replicate, if_pos (by omega)])
                  have hcx := hRx 0 _ rfl
                  rw [add_addS] at hcx
                  simp only [Ψf, Ψe] at hcx
                  obtain ⟨_, _, e_, _, hAy⟩ := RowL.sl (Γ := Γ) (L := sw :: sy :: t :: sx :: L) (i := 1) c1_len hry rfl
                  cases e_
                  obtain ⟨ay, hay, hRy⟩ := hAy i (-3) (by rw [List.getElem?_append_right (by omega), List.getElem?_replicate, if_pos (by omega)])
                  have hcy := hRy 0 _ rfl
                  rw [add_addS] at hcy
                  simp only [Ψf, Ψe] at hcy
                  refine RX.join 12 (fun (ss : Unit) T L' => T 70 = .bool (false) ∧ T 4 = T12 4 ∧ T 5 = T12 5 ∧ T 7 = T12 7 ∧ T 8 = T12 8 ∧ T 10 = T12 10 ∧ L' = sw :: sy :: t :: sx :: L ∧ (True)) (fun K40 hK40 => ?_) ?_
                  · simp only [h12_4, h12_5, h12_7, h12_8, h12_10] at hK40
                    refine VCops_cut 4 fun K41 hK41 => ?_
                    simp (maxSteps := 1000000) only [upd_app, Φa, Φb, Φc, ev, Φd, Φe, Φf, Φg, Φh, Φi, Φj, Φk, reduceIte, reduceCtorEq, if_true, if_false, Φl, Φm, Φn, Φo, true_and, and_true, false_and, and_false, true_implies, forall_const, false_implies, ne_eq, not_true_eq_false, not_false_eq_true, decide_true, decide_false, Φp, and_self, true_or, or_true, dite_true, dite_false, Φq, Φr, decide_eq_true_eq, decide_eq_false_iff_not, Φs, Φt, Φu, Φv, beq_self_eq_true, Φw, Φx, Φy, Φz, ΦA, eq_self, VCplan, less_refl_t, less_drop_t, VCops, VQops, guardVC, putVC, VC, VQ, ΦB, ΦC, ΦD, ΦE, ΦF, ΦG, ΦH, List.getElem?_cons_zero, List.getElem?_cons_succ, List.getElem?_nil, List.getElem?_toArray, ΦI, List.map_nil, ΦJ, ΦK, ΦL, ΦM, ΦN, ΦO, ΦP, ΦQ, ΦR, ΦS, ΦT, ΦU, ΦV, ΦW, ΦX, ΦY, ΦZ, Nat.reduceLT, Ψa, Ψb, Ψc, Ψd, Ψe, Nat.zero_add, Ψf, exists_eq_left, exists_eq_left', exists_const, existsSome, Nat.zero_le, Nat.le_refl, ia_slice, ia_arr, Addr.add_lit, Addr.add_zero', add_addS, Int.toNat_natCast, Int.toNat_zero, Int.toNat_one, Int.reduceToNat, T.elS_35, T.szA_35, T.zr_35, Try.underlying35, ld_ptr, loadVC, loadN, T.szA_3, T.zr_3, Try.underlying3, hP, h12_4, h12_5, h12_7, h12_8, h12_10, hlx, hly, Int.toNat_natCast, Ψf]
                    repeat' (first | refine iteB (fun hg => ?_) (fun hg => ?_) | refine iteI (fun hg => ?_) (fun hg => ?_) | ((first | refine ⟨⟨by omega, by omega⟩, ax, hax, ?_⟩ | refine ⟨⟨by omega, by omega⟩, ay, hay, ?_⟩ | refine ⟨_, hcx, ?_⟩ | refine ⟨_, hcy, ?_⟩ | refine And.intro (by omega) ?_ | refine ⟨_, Cell.at 0 rfl rfl, ?_⟩ | refine ⟨_, Cell.at 1 rfl rfl, ?_⟩ | refine ⟨_, Cell.at 2 rfl rfl, ?_⟩ | refine ⟨_, Cell.at 3 rfl rfl, ?_⟩ | fail); try simp (maxSteps := 1000000) only [upd_app, Φa, Φb, Φc, ev, Φd, Φe, Φf, Φg, Φh, Φi, Φj, Φk, reduceIte, reduceCtorEq, if_true, if_false, Φl, Φm, Φn, Φo, true_and, and_true, false_and, and_false, true_implies, forall_const, false_implies, ne_eq, not_true_eq_false, not_false_eq_true, decide_true, decide_false, Φp, and_self, true_or, or_true, dite_true, dite_false, Φq, Φr, decide_eq_true_eq, decide_eq_false_iff_not, Φs, Φt, Φu, Φv, beq_self_eq_true, Φw, Φx, Φy, Φz, ΦA, eq_self, VCplan, less_refl_t, less_drop_t, VCops, VQops, guardVC, putVC, VC, VQ, ΦB, ΦC, ΦD, ΦE, ΦF, ΦG, ΦH, List.getElem?_cons_zero, List.getElem?_cons_succ, List.getElem?_nil, List.getElem?_toArray, ΦI, List.map_nil, ΦJ, ΦK, ΦL, ΦM, ΦN, ΦO, ΦP, ΦQ, ΦR, ΦS, ΦT, ΦU, ΦV, ΦW, ΦX, ΦY, ΦZ, Nat.reduceLT, Ψa, Ψb, Ψc, Ψd, Ψe, Nat.zero_add, Ψf, exists_eq_left, exists_eq_left', exists_const, existsSome, Nat.zero_le, Nat.le_refl, ia_slice, ia_arr, Addr.add_lit, Addr.add_zero', add_addS, Int.toNat_natCast, Int.toNat_zero, Int.toNat_one, Int.reduceToNat, T.elS_35, T.szA_35, T.zr_35, Try.underlying35, ld_ptr, loadVC, loadN, T.szA_3, T.zr_3, Try.underlying3, hP, h12_4, h12_5, h12_7, h12_8, h12_10, hlx, hly, Int.toNat_natCast, Ψf]) | fail)
                    all_goals (refine hK41 _ _ ?_; clear hK41 K41)
                    all_goals
                      refine VCops_cut 4 fun K42 hK42 => ?_
                      try simp (maxSteps := 1000000) only [upd_app, Φa, Φb, Φc, ev, Φd, Φe, Φf, Φg, Φh, Φi, Φj, Φk, reduceIte, reduceCtorEq, if_true, if_false, Φl, Φm, Φn, Φo, true_and, and_true, false_and, and_false, true_implies, forall_const, false_implies, ne_eq, not_true_eq_false, not_false_eq_true, decide_true, decide_false, Φp, and_self, true_or, or_true, dite_true, dite_false, Φq, Φr, decide_eq_true_eq, decide_eq_false_iff_not, Φs, Φt, Φu, Φv, beq_self_eq_true, Φw, Φx, Φy, Φz, ΦA, eq_self, VCplan, less_refl_t, less_drop_t, VCops, VQops, guardVC, putVC, VC, VQ, ΦB, ΦC, ΦD, ΦE, ΦF, ΦG, ΦH, List.getElem?_cons_zero, List.getElem?_cons_succ, List.getElem?_nil, List.getElem?_toArray, ΦI, List.map_nil, ΦJ, ΦK, ΦL, ΦM, ΦN, ΦO, ΦP, ΦQ, ΦR, ΦS, ΦT, ΦU, ΦV, ΦW, ΦX, ΦY, ΦZ, Nat.reduceLT, Ψa, Ψb, Ψc, Ψd, Ψe, Nat.zero_add, Ψf, exists_eq_left, exists_eq_left', exists_const, existsSome, Nat.zero_le, Nat.le_refl, bin_neq, bin_neqb, bin_neqs, bin_neqa, T.szA_3, T.zr_3, Try.underlying3, hP, h12_4, h12_5, h12_7, h12_8, h12_10, hlx, hly, Int.toNat_natCast, Ψf]
                      repeat' (first | refine iteB (fun hg => ?_) (fun hg => ?_) | refine iteI (fun hg => ?_) (fun hg => ?_) | ((first | refine ⟨⟨by omega, by omega⟩, ax, hax, ?_⟩ | refine ⟨⟨by omega, by omega⟩, ay, hay, ?_⟩ | refine ⟨_, hcx, ?_⟩ | refine ⟨_, hcy, ?_⟩ | refine And.intro (by omega) ?_ | refine ⟨_, Cell.at 0 rfl rfl, ?_⟩ | refine ⟨_, Cell.at 1 rfl rfl, ?_⟩ | refine ⟨_, Cell.at 2 rfl rfl, ?_⟩ | refine ⟨_, Cell.at 3 rfl rfl, ?_⟩ | fail); try simp (maxSteps := 1000000) only [upd_app, Φa, Φb, Φc, ev, Φd, Φe, Φf, Φg, Φh, Φi, Φj, Φk, reduceIte, reduceCtorEq, if_true, if_false, Φl, Φm, Φn, Φo, true_and, and_true, false_and, and_false, true_implies, forall_const, false_implies, ne_eq, not_true_eq_false, not_false_eq_true, decide_true, decide_false, Φp, and_self, true_or, or_true, dite_true, dite_false, Φq, Φr, decide_eq_true_eq, decide_eq_false_iff_not, Φs, Φt, Φu, Φv, beq_self_eq_true, Φw, Φx, Φy, Φz, ΦA, eq_self, VCplan, less_refl_t, less_drop_t, VCops, VQops, guardVC, putVC, VC, VQ, ΦB, ΦC, ΦD, ΦE, ΦF, ΦG, ΦH, List.getElem?_cons_zero, List.getElem?_cons_succ, List.getElem?_nil, List.getElem?_toArray, ΦI, List.map_nil, ΦJ, ΦK, ΦL, ΦM, ΦN, ΦO, ΦP, ΦQ, ΦR, ΦS, ΦT, ΦU, ΦV, ΦW, ΦX, ΦY, ΦZ, Nat.reduceLT, Ψa, Ψb, Ψc, Ψd, Ψe, Nat.zero_add, Ψf, exists_eq_left, exists_eq_left', exists_const, existsSome, Nat.zero_le, Nat.le_refl, bin_neq, bin_neqb, bin_neqs, bin_neqa, T.szA_3, T.zr_3, Try.underlying3, hP, h12_4, h12_5, h12_7, h12_8, h12_10, hlx, hly, Int.toNat_natCast, Ψf]) | fail)
                      all_goals (refine hK42 _ _ ?_; clear hK42 K42)
                    all_goals
                      try simp (maxSteps := 1000000) only [upd_app, Φa, Φb, Φc, ev, Φd, Φe, Φf, Φg, Φh, Φi, Φj, Φk, reduceIte, reduceCtorEq, if_true, if_false, Φl, Φm, Φn, Φo, true_and, and_true, false_and, and_false, true_implies, forall_const, false_implies, ne_eq, not_true_eq_false, not_false_eq_true, decide_true, decide_false, Φp, and_self, true_or, or_true, dite_true, dite_false, Φq, Φr, decide_eq_true_eq, decide_eq_false_iff_not, Φs, Φt, Φu, Φv, beq_self_eq_true, Φw, Φx, Φy, Φz, ΦA, eq_self, VCplan, less_refl_t, less_drop_t, VCops, VQops, guardVC, putVC, VC, VQ, ΦB, ΦC, ΦD, ΦE, ΦF, ΦG, ΦH, List.getElem?_cons_zero, List.getElem?_cons_succ, List.getElem?_nil, List.getElem?_toArray, ΦI, List.map_nil, ΦJ, ΦK, ΦL, ΦM, ΦN, ΦO, ΦP, ΦQ, ΦR, ΦS, ΦT, ΦU, ΦV, ΦW, ΦX, ΦY, ΦZ, Nat.reduceLT, Ψa, Ψb, Ψc, Ψd, Ψe, Nat.zero_add, Ψf, exists_eq_left, exists_eq_left', exists_const, existsSome, Nat.zero_le, Nat.le_refl, ia_slice, ia_arr, Addr.add_lit, Addr.add_zero', add_addS, Int.toNat_natCast, Int.toNat_zero, Int.toNat_one, Int.reduceToNat, T.elS_35, T.szA_35, T.zr_35, Try.underlying35, ld_ptr, loadVC, loadN, T.szA_3, T.zr_3, Try.underlying3, bin_neq, bin_neqb, bin_neqs, bin_neqa, pick_bool, hP, h12_4, h12_5, h12_7, h12_8, h12_10, hlx, hly, Int.toNat_natCast, Ψf]
                      repeat' (first | refine iteB (fun hg => ?_) (fun hg => ?_) | refine iteI (fun hg => ?_) (fun hg => ?_) | ((first | refine ⟨⟨by omega, by omega⟩, ax, hax, ?_⟩ | refine ⟨⟨by omega, by omega⟩, ay, hay, ?_⟩ | refine ⟨_, hcx, ?_⟩ | refine ⟨_, hcy, ?_⟩ | refine And.intro (by omega) ?_ | refine ⟨_, Cell.at 0 rfl rfl, ?_⟩ | refine ⟨_, Cell.at 1 rfl rfl, ?_⟩ | refine ⟨_, Cell.at 2 rfl rfl, ?_⟩ | refine ⟨_, Cell.at 3 rfl rfl, ?_⟩ | fail); try simp (maxSteps := 1000000) only [upd_app, Φa, Φb, Φc, ev, Φd, Φe, Φf, Φg, Φh, Φi, Φj, Φk, reduceIte, reduceCtorEq, if_true, if_false, Φl, Φm, Φn, Φo, true_and, and_true, false_and, and_false, true_implies, forall_const, false_implies, ne_eq, not_true_eq_false, not_false_eq_true, decide_true, decide_false, Φp, and_self, true_or, or_true, dite_true, dite_false, Φq, Φr, decide_eq_true_eq, decide_eq_false_iff_not, Φs, Φt, Φu, Φv, beq_self_eq_true, Φw, Φx, Φy, Φz, ΦA, eq_self, VCplan, less_refl_t, less_drop_t, VCops, VQops, guardVC, putVC, VC, VQ, ΦB, ΦC, ΦD, ΦE, ΦF, ΦG, ΦH, List.getElem?_cons_zero, List.getElem?_cons_succ, List.getElem?_nil, List.getElem?_toArray, ΦI, List.map_nil, ΦJ, ΦK, ΦL, ΦM, ΦN, ΦO, ΦP, ΦQ, ΦR, ΦS, ΦT, ΦU, ΦV, ΦW, ΦX, ΦY, ΦZ, Nat.reduceLT, Ψa, Ψb, Ψc, Ψd, Ψe, Nat.zero_add, Ψf, exists_eq_left, exists_eq_left', exists_const, existsSome, Nat.zero_le, Nat.le_refl, ia_slice, ia_arr, Addr.add_lit, Addr.add_zero', add_addS, Int.toNat_natCast, Int.toNat_zero, Int.toNat_one, Int.reduceToNat, T.elS_35, T.szA_35, T.zr_35, Try.underlying35, ld_ptr, loadVC, loadN, T.szA_3, T.zr_3, Try.underlying3, bin_neq, bin_neqb, bin_neqs, bin_neqa, pick_bool, hP, h12_4, h12_5, h12_7, h12_8, h12_10, hlx, hly, Int.toNat_natCast, Ψf]) | fail)
                    all_goals
                      refine hK40 () _ (sw :: sy :: t :: sx :: L) _ (by first | exact Less.refl _ | exact Less.drop _ _ | exact Less.drops (Less.drop _ _) | exact Less.drops (Less.drops (Less.drop _ _)) | exact Less.drops (Less.drops (Less.drops (Less.drop _ _))) | exact Less.drops (Less.drops (Less.drops (Less.drops (Less.drop _ _))))) ?_
                      try dsimp only
                      refine ⟨?_, ?_, ?_, ?_, ?_, ?_, ?_, ?_⟩
                      · simp (maxSteps := 1000000) only [upd_app, Φa, Φb, Φc, ev, Φd, Φe, Φf, Φg, Φh, Φi, Φj, Φk, reduceIte, reduceCtorEq, if_true, if_false, Φl, Φm, Φn, Φo, true_and, and_true, false_and, and_false, true_implies, forall_const, false_implies, ne_eq, not_true_eq_false, not_false_eq_true, decide_true, decide_false, Φp, and_self, true_or, or_true, dite_true, dite_false, Φq, Φr, decide_eq_true_eq, decide_eq_false_iff_not, Φs, Φt, Φu, Φv, beq_self_eq_true, Φw, Φx, Φy, Φz, ΦA, eq_self, hP, h12_4, h12_5, h12_7, h12_8, h12_10]
                        first | done | rfl | simp
                      · simp (maxSteps := 1000000) only [upd_app, Φa, Φb, Φc, ev, Φd, Φe, Φf, Φg, Φh, Φi, Φj, Φk, reduceIte, reduceCtorEq, if_true, if_false, Φl, Φm, Φn, Φo, true_and, and_true, false_and, and_false, true_implies, forall_const, false_implies, ne_eq, not_true_eq_false, not_false_eq_true, decide_true, decide_false, Φp, and_self, true_or, or_true, dite_true, dite_false, Φq, Φr, decide_eq_true_eq, decide_eq_false_iff_not, Φs, Φt, Φu, Φv, beq_self_eq_true, Φw, Φx, Φy, Φz, ΦA, eq_self, hP, h12_4, h12_5, h12_7, h12_8, h12_10]
                      · simp (maxSteps := 1000000) only [upd_app, Φa, Φb, Φc, ev, Φd, Φe, Φf, Φg, Φh, Φi, Φj, Φk, reduceIte, reduceCtorEq, if_true, if_false, Φl, Φm, Φn, Φo, true_and, and_true, false_and, and_false, true_implies, forall_const, false_implies, ne_eq, not_true_eq_false, not_false_eq_true, decide_true, decide_false, Φp, and_self, true_or, or_true, dite_true, dite_false, Φq, Φr, decide_eq_true_eq, decide_eq_false_iff_not, Φs, Φt, Φu, Φv, beq_self_eq_true, Φw, Φx, Φy, Φz, ΦA, eq_self, hP, h12_4, h12_5, h12_7, h12_8, h12_10]
                      · simp (maxSteps := 1000000) only [upd_app, Φa, Φb, Φc, ev, Φd, Φe, Φf, Φg, Φh, Φi, Φj, Φk, reduceIte, reduceCtorEq, if_true, if_false, Φl, Φm, Φn, Φo, true_and, and_true, false_and, and_false, true_implies, forall_const, false_implies, ne_eq, not_true_eq_false, not_false_eq_true, decide_true, decide_false, Φp, and_self, true_or, or_true, dite_true, dite_false, Φq, Φr, decide_eq_true_eq, decide_eq_false_iff_not, Φs, Φt, Φu, Φv, beq_self_eq_true, Φw, Φx, Φy, Φz, ΦA, eq_self, hP, h12_4, h12_5, h12_7, h12_8, h12_10]
                      · simp (maxSteps := 1000000) only [upd_app, Φa, Φb, Φc, ev, Φd, Φe, Φf, Φg, Φh, Φi, Φj, Φk, reduceIte, reduceCtorEq, if_true, if_false, Φl, Φm, Φn, Φo, true_and, and_true, false_and, and_false, true_implies, forall_const, false_implies, ne_eq, not_true_eq_false, not_false_eq_true, decide_true, decide_false, Φp, and_self, true_or, or_true, dite_true, dite_false, Φq, Φr, decide_eq_true_eq, decide_eq_false_iff_not, Φs, Φt, Φu, Φv, beq_self_eq_true, Φw, Φx, Φy, Φz, ΦA, eq_self, hP, h12_4, h12_5, h12_7, h12_8, h12_10]
                      · simp (maxSteps := 1000000) only [upd_app, Φa, Φb, Φc, ev, Φd, Φe, Φf, Φg, Φh, Φi, Φj, Φk, reduceIte, reduceCtorEq, if_true, if_false, Φl, Φm, Φn, Φo, true_and, and_true, false_and, and_false, true_implies, forall_const, false_implies, ne_eq, not_true_eq_false, not_false_eq_true, decide_true, decide_false, Φp, and_self, true_or, or_true, dite_true, dite_false, Φq, Φr, decide_eq_true_eq, decide_eq_false_iff_not, Φs, Φt, Φu, Φv, beq_self_eq_true, Φw, Φx, Φy, Φz, ΦA, eq_self, hP, h12_4, h12_5, h12_7, h12_8, h12_10]
                      · rfl
                      · trivial
                  · intro ss T13 L13 hI
                    simp only [h12_4, h12_5, h12_7, h12_8, h12_10] at hI 
                    obtain ⟨h13_70, h13_4, h13_5, h13_7, h13_8, h13_10, hL13, hinv⟩ := hI
                    replace hL13 := hL13.symm
                    subst hL13
                    clear h12_4 h12_5 h12_7 h12_8 h12_10 T12
                    refine RX.done ?_
                    simp (maxSteps := 1000000) only [upd_app, Φa, Φb, Φc, ev, Φd, Φe, Φf, Φg, Φh, Φi, Φj, Φk, reduceIte, reduceCtorEq, if_true, if_false, Φl, Φm, Φn, Φo, true_and, and_true, false_and, and_false, true_implies, forall_const, false_implies, ne_eq, not_true_eq_false, not_false_eq_true, decide_true, decide_false, Φp, and_self, true_or, or_true, dite_true, dite_false, Φq, Φr, decide_eq_true_eq, decide_eq_false_iff_not, Φs, Φt, Φu, Φv, beq_self_eq_true, Φw, Φx, Φy, Φz, ΦA, eq_self, VCplan, less_refl_t, less_drop_t, VCops, VQops, guardVC, putVC, VC, VQ, ΦB, ΦC, ΦD, ΦE, ΦF, ΦG, ΦH, List.getElem?_cons_zero, List.getElem?_cons_succ, List.getElem?_nil, List.getElem?_toArray, ΦI, List.map_nil, ΦJ, ΦK, ΦL, ΦM, ΦN, ΦO, ΦP, ΦQ, ΦR, ΦS, ΦT, ΦU, ΦV, ΦW, ΦX, ΦY, ΦZ, Nat.reduceLT, Ψa, Ψb, Ψc, Ψd, Ψe, Nat.zero_add, Ψf, exists_eq_left, exists_eq_left', exists_const, existsSome, Nat.zero_le, Nat.le_refl, hP, h13_70, h13_4, h13_5, h13_7, h13_8, h13_10]
                    refine hK39 _ _ ?_
                    try clear hK39 K39
                    refine SX.cond_k fun X43 Y43 hX43 hY43 => ?_
                    simp (maxSteps := 1000000) only [upd_app, Φa, Φb, Φc, ev, Φd, Φe, Φf, Φg, Φh, Φi, Φj, Φk, reduceIte, reduceCtorEq, if_true, if_false, Φl, Φm, Φn, Φo, true_and, and_true, false_and, and_false, true_implies, forall_const, false_implies, ne_eq, not_true_eq_false, not_false_eq_true, decide_true, decide_false, Φp, and_self, true_or, or_true, dite_true, dite_false, Φq, Φr, decide_eq_true_eq, decide_eq_false_iff_not, Φs, Φt, Φu, Φv, beq_self_eq_true, Φw, Φx, Φy, Φz, ΦA, eq_self, hP, h13_70, h13_4, h13_5, h13_7, h13_8, h13_10, condVC]
                    refine hY43 ?_
                    clear hX43 hY43 X43 Y43
                    refine SX.skip ?_
                    try simp only [Φd, Φe, Φf, Φg, Φh, Φi, Φj, if_true, if_false, reduceIte]
                    refine hK38 _ _ ?_
                    try clear hK38 K38
                    refine SX.region ?_
                    simp (maxSteps := 1000000) only [upd_app, Φa, Φb, Φc, ev, Φd, Φe, Φf, Φg, Φh, Φi, Φj, Φk, reduceIte, reduceCtorEq, if_true, if_false, Φl, Φm, Φn, Φo, true_and, and_true, false_and, and_false, true_implies, forall_const, false_implies, ne_eq, not_true_eq_false, not_false_eq_true, decide_true, decide_false, Φp, and_self, true_or, or_true, dite_true, dite_false, Φq, Φr, decide_eq_true_eq, decide_eq_false_iff_not, Φs, Φt, Φu, Φv, beq_self_eq_true, Φw, Φx, Φy, Φz, ΦA, eq_self, VCplan, less_refl_t, less_drop_t, VCops, VQops, guardVC, putVC, VC, VQ, ΦB, ΦC, ΦD, ΦE, ΦF, ΦG, ΦH, List.getElem?_cons_zero, List.getElem?_cons_succ, List.getElem?_nil, List.getElem?_toArray, ΦI, List.map_nil, ΦJ, ΦK, ΦL, ΦM, ΦN, ΦO, ΦP, ΦQ, ΦR, ΦS, ΦT, ΦU, ΦV, ΦW, ΦX, ΦY, ΦZ, Nat.reduceLT, Ψa, Ψb, Ψc, Ψd, Ψe, Nat.zero_add, Ψf, exists_eq_left, exists_eq_left', exists_const, existsSome, Nat.zero_le, Nat.le_refl, bin_add, bin_adds, hP, h13_70, h13_4, h13_5, h13_7, h13_8, h13_10]
                    refine hK34 (i + 1) _ (sw :: sy :: t :: sx :: L) _ (by first | exact Less.refl _ | exact Less.drop _ _ | exact Less.drops (Less.drop _ _) | exact Less.drops (Less.drops (Less.drop _ _)) | exact Less.drops (Less.drops (Less.drops (Less.drop _ _))) | exact Less.drops (Less.drops (Less.drops (Less.drops (Less.drop _ _))))) ?_ ?_
                    · try dsimp only
                      refine ⟨?_, ?_, ?_, ?_, ?_, ?_, ?_⟩
                      · simp (maxSteps := 1000000) only [upd_app, Φa, Φb, Φc, ev, Φd, Φe, Φf, Φg, Φh, Φi, Φj, Φk, reduceIte, reduceCtorEq, if_true, if_false, Φl, Φm, Φn, Φo, true_and, and_true, false_and, and_false, true_implies, forall_const, false_implies, ne_eq, not_true_eq_false, not_false_eq_true, decide_true, decide_false, Φp, and_self, true_or, or_true, dite_true, dite_false, Φq, Φr, decide_eq_true_eq, decide_eq_false_iff_not, Φs, Φt, Φu, Φv, beq_self_eq_true, Φw, Φx, Φy, Φz, ΦA, eq_self, hP, h13_70, h13_4, h13_5, h13_7, h13_8, h13_10]
                        rw [inc64 (by omega)]
                      · simp (maxSteps := 1000000) only [upd_app, Φa, Φb, Φc, ev, Φd, Φe, Φf, Φg, Φh, Φi, Φj, Φk, reduceIte, reduceCtorEq, if_true, if_false, Φl, Φm, Φn, Φo, true_and, and_true, false_and, and_false, true_implies, forall_const, false_implies, ne_eq, not_true_eq_false, not_false_eq_true, decide_true, decide_false, Φp, and_self, true_or, or_true, dite_true, dite_false, Φq, Φr, decide_eq_true_eq, decide_eq_false_iff_not, Φs, Φt, Φu, Φv, beq_self_eq_true, Φw, Φx, Φy, Φz, ΦA, eq_self, hP, h13_70, h13_4, h13_5, h13_7, h13_8, h13_10]
                      · simp (maxSteps := 1000000) only [upd_app, Φa, Φb, Φc, ev, Φd, Φe, Φf, Φg, Φh, Φi, Φj, Φk, reduceIte, reduceCtorEq, if_true, if_false, Φl, Φm, Φn, Φo, true_and, and_true, false_and, and_false, true_implies, forall_const, false_implies, ne_eq, not_true_eq_false, not_false_eq_true, decide_true, decide_false, Φp, and_self, true_or, or_true, dite_true, dite_false, Φq, Φr, decide_eq_true_eq, decide_eq_false_iff_not, Φs, Φt, Φu, Φv, beq_self_eq_true, Φw, Φx, Φy, Φz, ΦA, eq_self, hP, h13_70, h13_4, h13_5, h13_7, h13_8, h13_10]
                      · simp (maxSteps := 1000000) only [upd_app, Φa, Φb, Φc, ev, Φd, Φe, Φf, Φg, Φh, Φi, Φj, Φk, reduceIte, reduceCtorEq, if_true, if_false, Φl, Φm, Φn, Φo, true_and, and_true, false_and, and_false, true_implies, forall_const, false_implies, ne_eq, not_true_eq_false, not_false_eq_true, decide_true, decide_false, Φp, and_self, true_or, or_true, dite_true, dite_false, Φq, Φr, decide_eq_true_eq, decide_eq_false_iff_not, Φs, Φt, Φu, Φv, beq_self_eq_true, Φw, Φx, Φy, Φz, ΦA, eq_self, hP, h13_70, h13_4, h13_5, h13_7, h13_8, h13_10]
                      · simp (maxSteps := 1000000) only [upd_app, Φa, Φb, Φc, ev, Φd, Φe, Φf, Φg, Φh, Φi, Φj, Φk, reduceIte, reduceCtorEq, if_true, if_false, Φl, Φm, Φn, Φo, true_and, and_true, false_and, and_false, true_implies, forall_const, false_implies, ne_eq, not_true_eq_false, not_false_eq_true, decide_true, decide_false, Φp, and_self, true_or, or_true, dite_true, dite_false, Φq, Φr, decide_eq_true_eq, decide_eq_false_iff_not, Φs, Φt, Φu, Φv, beq_self_eq_true, Φw, Φx, Φy, Φz, ΦA, eq_self, hP, h13_70, h13_4, h13_5, h13_7, h13_8, h13_10]
                      · rfl
                      · exact ⟨by omega, by omega⟩
                    · (try dsimp only); omega
                · clear hX37 hY37 X37 Y37
                  refine SX.exit ?_
                  try simp only [Φd, Φe, Φf, Φg, Φh, Φi, Φj, if_true, if_false, reduceIte]
                  refine hK32 _ _ ?_
                  try clear hK32 K32
                  refine SX.seq_k fun K44 hK44 => ?_
                  refine SX.region_x ?_
                  refine RX.live [4, 5] (fun T14 hT14 => ?_)
                  simp only [forall_mem_cons', forall_mem_nil', upd_app, Φa, Φb, Φc, ev, Φd, Φe, Φf, Φg, Φh, Φi, Φj, Φk, reduceIte, reduceCtorEq, if_true, if_false, Φl, Φm, Φn, Φo, true_and, and_true, false_and, and_false, true_implies, forall_const, false_implies, ne_eq, not_true_eq_false, not_false_eq_true, decide_true, decide_false, Φp, and_self, true_or, or_true, dite_true, dite_false, Φq, Φr, decide_eq_true_eq, decide_eq_false_iff_not, Φs, Φt, Φu, Φv, beq_self_eq_true, Φw, Φx, Φy, Φz, ΦA, eq_self, hP, h11_10, h11_4, h11_5, h11_7, h11_8] at hT14
                  obtain ⟨h14_4, h14_5⟩ := hT14
                  clear h11_10 h11_4 h11_5 h11_7 h11_8 T11
                  have hTg : Tg (sw :: sy :: t :: sx :: L) := Tg.cons (Row.tagged hrw (by decide)) (Tg.cons (Row.tagged hry (by decide)) (Tg.cons (fun b o h => by obtain ⟨cs, fr, rfl⟩ := hV.1 b o h.symm; exact ⟨_, _, _, rfl, by decide⟩) (Tg.cons (Row.tagged hrx (by decide)) hL)))
                  refine RX.join 6 (fun (ss : Unit) T L' => T 76 = .bool (true) ∧ L' = sw :: sy :: t :: sx :: L ∧ (True)) (fun K45 hK45 => ?_) ?_
                  · simp (maxSteps := 1000000) only [upd_app, Φa, Φb, Φc, ev, Φd, Φe, Φf, Φg, Φh, Φi, Φj, Φk, reduceIte, reduceCtorEq, if_true, if_false, Φl, Φm, Φn, Φo, true_and, and_true, false_and, and_false, true_implies, forall_const, false_implies, ne_eq, not_true_eq_false, not_false_eq_true, decide_true, decide_false, Φp, and_self, true_or, or_true, dite_true, dite_false, Φq, Φr, decide_eq_true_eq, decide_eq_false_iff_not, Φs, Φt, Φu, Φv, beq_self_eq_true, Φw, Φx, Φy, Φz, ΦA, eq_self, VCplan, less_refl_t, less_drop_t, VCops, VQops, guardVC, putVC, VC, VQ, ΦB, ΦC, ΦD, ΦE, ΦF, ΦG, ΦH, List.getElem?_cons_zero, List.getElem?_cons_succ, List.getElem?_nil, List.getElem?_toArray, ΦI, List.map_nil, ΦJ, ΦK, ΦL, ΦM, ΦN, ΦO, ΦP, ΦQ, ΦR, ΦS, ΦT, ΦU, ΦV, ΦW, ΦX, ΦY, ΦZ, Nat.reduceLT, Ψa, Ψb, Ψc, Ψd, Ψe, Nat.zero_add, Ψf, exists_eq_left, exists_eq_left', exists_const, existsSome, Nat.zero_le, Nat.le_refl, qcall_f, call_f, len_slice, len_str, cap_slice, min_int, max_int, T.elS_35, T.szA_35, T.zr_35, Try.underlying35, T.callable_17, T.callable_11, pick_bool, hP, h14_4, h14_5]
                    repeat' (first | refine iteB (fun hg => ?_) (fun hg => ?_) | refine iteI (fun hg => ?_) (fun hg => ?_) | ((first | (refine SCall.mono (sameInts_spec hP (sl_I (C := Cell Γ (sw :: sy :: t :: sx :: L)) (View.sl (P := [sw]) c1_len hV hry ⟨_, _, rfl, hk2⟩)) (sl_I (RowL.sl (L := sw :: sy :: t :: sx :: L) (i := 0) c1_len hrw rfl)) (by omega)) ?_; rintro v_ L_ ⟨hv_, hL_⟩; rw [hv_, hL_, decide_eq_true rfl]; clear hv_ hL_ v_ L_) | (refine SCall.mono (awake_spec hP hTg) ?_; rintro v_ L_ ⟨hv_, hL_⟩; rw [hv_, hL_]; clear hv_ hL_ v_ L_) | refine And.intro (by omega) ?_ | refine ⟨_, Cell.at 0 rfl rfl, ?_⟩ | refine ⟨_, Cell.at 1 rfl rfl, ?_⟩ | refine ⟨_, Cell.at 2 rfl rfl, ?_⟩ | refine ⟨_, Cell.at 3 rfl rfl, ?_⟩ | fail); try simp (maxSteps := 1000000) only [upd_app, Φa, Φb, Φc, ev, Φd, Φe, Φf, Φg, Φh, Φi, Φj, Φk, reduceIte, reduceCtorEq, if_true, if_false, Φl, Φm, Φn, Φo, true_and, and_true, false_and, and_false, true_implies, forall_const, false_implies, ne_eq, not_true_eq_false, not_false_eq_true, decide_true, decide_false, Φp, and_self, true_or, or_true, dite_true, dite_false, Φq, Φr, decide_eq_true_eq, decide_eq_false_iff_not, Φs, Φt, Φu, Φv, beq_self_eq_true, Φw, Φx, Φy, Φz, ΦA, eq_self, VCplan, less_refl_t, less_drop_t, VCops, VQops, guardVC, putVC, VC, VQ, ΦB, ΦC, ΦD, ΦE, ΦF, ΦG, ΦH, List.getElem?_cons_zero, List.getElem?_cons_succ, List.getElem?_nil, List.getElem?_toArray, ΦI, List.map_nil, ΦJ, ΦK, ΦL, ΦM, ΦN, ΦO, ΦP, ΦQ, ΦR, ΦS, ΦT, ΦU, ΦV, ΦW, ΦX, ΦY, ΦZ, Nat.reduceLT, Ψa, Ψb, Ψc, Ψd, Ψe, Nat.zero_add, Ψf, exists_eq_left, exists_eq_left', exists_const, existsSome, Nat.zero_le, Nat.le_refl, qcall_f, call_f, len_slice, len_str, cap_slice, min_int, max_int, T.elS_35, T.szA_35, T.zr_35, Try.underlying35, T.callable_17, T.callable_11, pick_bool, hP, h14_4, h14_5]) | fail)
                    all_goals
                      refine hK45 () _ (sw :: sy :: t :: sx :: L) _ (by first | exact Less.refl _ | exact Less.drop _ _ | exact Less.drops (Less.drop _ _) | exact Less.drops (Less.drops (Less.drop _ _)) | exact Less.drops (Less.drops (Less.drops (Less.drop _ _))) | exact Less.drops (Less.drops (Less.drops (Less.drops (Less.drop _ _))))) ?_
                      try dsimp only
                      refine ⟨?_, ?_, ?_⟩
                      · simp (maxSteps := 1000000) only [upd_app, Φa, Φb, Φc, ev, Φd, Φe, Φf, Φg, Φh, Φi, Φj, Φk, reduceIte, reduceCtorEq, if_true, if_false, Φl, Φm, Φn, Φo, true_and, and_true, false_and, and_false, true_implies, forall_const, false_implies, ne_eq, not_true_eq_false, not_false_eq_true, decide_true, decide_false, Φp, and_self, true_or, or_true, dite_true, dite_false, Φq, Φr, decide_eq_true_eq, decide_eq_false_iff_not, Φs, Φt, Φu, Φv, beq_self_eq_true, Φw, Φx, Φy, Φz, ΦA, eq_self, hP, h14_4, h14_5]
                        first | done | rfl
                      · rfl
                      · trivial
                  · intro ss T15 L15 hI
                    obtain ⟨h15_76, hL15, hinv⟩ := hI
                    replace hL15 := hL15.symm
                    subst hL15
                    clear h14_4 h14_5 T14
                    refine RX.done ?_
                    simp (maxSteps := 1000000) only [upd_app, Φa, Φb, Φc, ev, Φd, Φe, Φf, Φg, Φh, Φi, Φj, Φk, reduceIte, reduceCtorEq, if_true, if_false, Φl, Φm, Φn, Φo, true_and, and_true, false_and, and_false, true_implies, forall_const, false_implies, ne_eq, not_true_eq_false, not_false_eq_true, decide_true, decide_false, Φp, and_self, true_or, or_true, dite_true, dite_false, Φq, Φr, decide_eq_true_eq, decide_eq_false_iff_not, Φs, Φt, Φu, Φv, beq_self_eq_true, Φw, Φx, Φy, Φz, ΦA, eq_self, VCplan, less_refl_t, less_drop_t, VCops, VQops, guardVC, putVC, VC, VQ, ΦB, ΦC, ΦD, ΦE, ΦF, ΦG, ΦH, List.getElem?_cons_zero, List.getElem?_cons_succ, List.getElem?_nil, List.getElem?_toArray, ΦI, List.map_nil, ΦJ, ΦK, ΦL, ΦM, ΦN, ΦO, ΦP, ΦQ, ΦR, ΦS, ΦT, ΦU, ΦV, ΦW, ΦX, ΦY, ΦZ, Nat.reduceLT, Ψa, Ψb, Ψc, Ψd, Ψe, Nat.zero_add, Ψf, exists_eq_left, exists_eq_left', exists_const, existsSome, Nat.zero_le, Nat.le_refl, hP, h15_76]
                    refine hK44 _ _ ?_
                    try clear hK44 K44
                    refine SX.ret ?_
                    simp only [Φd, Φe, Φf, Φg, Φh, Φi, Φj, if_true, if_false, reduceIte, retQ_ret]
                    try simp only [res0, res1, res2, res3, upd_app, Φa, Φb, Φc, ev, Φd, Φe, Φf, Φg, Φh, Φi, Φj, Φk, reduceIte, reduceCtorEq, if_true, if_false, Φl, Φm, Φn, Φo, true_and, and_true, false_and, and_false, true_implies, forall_const, false_implies, ne_eq, not_true_eq_false, not_false_eq_true, decide_true, decide_false, Φp, and_self, true_or, or_true, dite_true, dite_false, Φq, Φr, decide_eq_true_eq, decide_eq_false_iff_not, Φs, Φt, Φu, Φv, beq_self_eq_true, Φw, Φx, Φy, Φz, ΦA, eq_self, hP, h15_76]
                    exact ⟨_, L, Less.tail [_, _, _, _] L, rfl, rfl, rfl⟩
end Go.Proofs.Ytkeefmneldflaaa
