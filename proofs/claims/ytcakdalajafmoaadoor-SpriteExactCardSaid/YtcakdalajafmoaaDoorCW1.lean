/- A part of the proof of SpriteExactCardSaid. -/
import Derived.Test.YtcakdalajafmoaaDoorCSxNum
import Derived.Test.YtcakdalajafmoaaDoorCSxT
set_option linter.unusedVariables false
set_option linter.unusedSimpArgs false
namespace Go.Proofs.YtcakdalajafmoaaDoor
open Go.RowKit Go.SX
open Go.SX renaming env0_zero → Φa, env0_succ → Φb, env0_nil → Φc, andThen_normal → Φd, andThen_ret → Φe, andThen_exit → Φf, inBlk_normal → Φg, inBlk_ret → Φh, inBlk_exit → Φi
open Nat renaming reduceEqDiff → Φj, reduceBEq → Φk, reduceLeDiff → ΦX
open Bool renaming not_true → Φl, not_false → Φm, false_eq_true → Φn, true_eq_false → Φo, not_eq_true' → Φq, not_eq_false' → Φr, not_eq_true → Φt, not_eq_false → Φu, and_true → Φw, true_and → Φx, and_self → Φy, and_false → Φz, false_and → ΦA
open Int renaming reduceEq → Φp, natCast_inj → Φv
open Decidable renaming not_not → Φs
open Option renaming map_some → ΦB, map_none → ΦC, bind_some → ΦD, bind_none → ΦE, isSome_some → ΦF, isSome_none → ΦG
open Option.some renaming injEq → ΦH
open List renaming map_toArray → ΦI, toList_toArray → ΦJ, append_toArray → ΦK, nil_append → ΦL, cons_append → ΦM, append_nil → ΦN, flatMap_cons → ΦO, flatMap_nil → ΦP, length_cons → ΦQ, length_nil → ΦR, set_cons_zero → ΦS, set_cons_succ → ΦT, drop_succ_cons → ΦU, take_succ_cons → ΦV, size_toArray → ΦW

def pics : List Int := [240,144,144,144,240, 32,96,32,32,112, 240,16,240,128,240, 240,16,240,16,240, 144,144,240,16,16, 240,128,240,16,240, 240,128,240,144,240, 240,16,16,16,16,
  240,144,240,144,240, 240,144,240,16,240, 240,144,240,144,144, 224,144,224,144,224, 240,128,128,128,240, 224,144,144,144,224, 240,128,240,128,240, 240,128,240,128,128]
def digit (n : Nat) : List Int := if n < 16 then (pics.drop (n * 5)).take 5 else [0, 0, 0, 0, 0]
/-- The table lies in the program's variable. -/
def Laid (Γ : Ctx) : Prop := ∀ (L : Hp) (j : Nat) (x : Int), pics[j]? = some x → Cell Γ L ⟨0, j, none⟩ (.int .u8 x)

theorem digit_all : ((List.range 16).all fun n => (digit n).length == 5 && (List.range 5).all fun k => decide (pics[n * 5 + k]? = some ((digit n).getD k 0))) = true := by kernel_rfl
theorem digit_at {n k : Nat} (hn : n < 16) (hk : k < 5) : pics[n * 5 + k]? = some ((digit n).getD k 0) := by
  have h1 := List.all_eq_true.1 digit_all n (List.mem_range.2 hn)
  rw [Bool.and_eq_true] at h1
  have h2 := List.all_eq_true.1 h1.2 k (List.mem_range.2 hk)
  exact of_decide_eq_true h2
theorem digit_len (n : Nat) : (digit n).length = 5 := by
  by_cases hn : n < 16
  · have h1 := List.all_eq_true.1 digit_all n (List.mem_range.2 hn)
    rw [Bool.and_eq_true] at h1
    simpa using h1.1
  · rw [digit, if_neg hn]; rfl
theorem five {l : List Int} (h : l.length = 5) : ints .u8 l = [.int .u8 (l.getD 0 0), .int .u8 (l.getD 1 0), .int .u8 (l.getD 2 0), .int .u8 (l.getD 3 0), .int .u8 (l.getD 4 0)] := by
  match l, h with
  | [a, b, c, d, e], _ => rfl
theorem digit_five (n : Nat) : ints .u8 (digit n) = [.int .u8 ((digit n).getD 0 0), .int .u8 ((digit n).getD 1 0), .int .u8 ((digit n).getD 2 0), .int .u8 ((digit n).getD 3 0), .int .u8 ((digit n).getD 4 0)] := five (digit_len n)
set_option maxRecDepth 100000 in
theorem Digit_spec {Γ : Ctx} (hP : Γ.P = Tryd.prog) {L : Hp} {n : Nat} (hG : Laid Γ) (hn : n < 256) :
    SCall Γ 5 #[(.int .u8 (n : Int))] L (fun v L' => v = .agg (ints .u8 (digit n)).toArray ∧ L' = L) := by
  refine SCall.enter (n := 9) (resX Γ [.cell 2 22]) (hP ▸ Tryd.func5) rfl rfl (by simp) (resX_ok rfl) ?_
  refine SX.seq_k fun K1 hK1 => ?_
  refine SX.region ?_
  simp (maxSteps := 1000000) only [upd_app, Φa, Φb, Φc, ev, Φd, Φe, Φf, Φg, Φh, Φi, Φj, Φk, reduceIte, reduceCtorEq, if_true, if_false, Φl, Φm, Φn, Φo, true_and, and_true, false_and, and_false, true_implies, forall_const, false_implies, ne_eq, not_true_eq_false, not_false_eq_true, decide_true, decide_false, Φp, and_self, true_or, or_true, dite_true, dite_false, Φq, Φr, decide_eq_true_eq, decide_eq_false_iff_not, Φs, Φt, Φu, Φv, beq_self_eq_true, Φw, Φx, Φy, Φz, ΦA, eq_self, VCplan, less_refl_t, less_drop_t, VCops, VQops, guardVC, putVC, VC, VQ, ΦB, ΦC, ΦD, ΦE, ΦF, ΦG, ΦH, List.getElem?_cons_zero, List.getElem?_cons_succ, List.getElem?_nil, List.getElem?_toArray, List.map_cons, List.map_nil, ΦI, ΦJ, ΦK, ΦL, ΦM, ΦN, ΦO, ΦP, ΦQ, ΦR, ΦS, ΦT, List.drop_zero, ΦU, ΦV, List.take_zero, ΦW, Nat.reduceLT, ΦX, Nat.reduceAdd, Nat.reduceMul, Nat.reduceSub, Nat.add_zero, Nat.zero_add, Nat.mul_one, exists_eq_left, exists_eq_left', exists_const, existsSome, Nat.zero_le, Nat.le_refl, cells_int, cells_bool, cells_string, cells_pointer, cells_slice, cells_agg, oneB_nil, oneB_cons, one_int, one_bool, one_string, one_pointer, one_slice, one_map, one_func, one_nilFunc, one_nilIface, one_iface, cells_map, cells_func, cells_nilFunc, cells_nilIface, cells_iface, T.elA_22, T.lay_22, T.szA_22, T.zr_22, Tryd.underlying22, hP]
  intro b
  refine hK1 _ _ ?_
  try clear hK1 K1
  refine SX.seq_k fun K2 hK2 => ?_
  refine SX.seq_k fun K3 hK3 => ?_
  refine SX.region ?_
  simp (maxSteps := 1000000) only [upd_app, Φa, Φb, Φc, ev, Φd, Φe, Φf, Φg, Φh, Φi, Φj, Φk, reduceIte, reduceCtorEq, if_true, if_false, Φl, Φm, Φn, Φo, true_and, and_true, false_and, and_false, true_implies, forall_const, false_implies, ne_eq, not_true_eq_false, not_false_eq_true, decide_true, decide_false, Φp, and_self, true_or, or_true, dite_true, dite_false, Φq, Φr, decide_eq_true_eq, decide_eq_false_iff_not, Φs, Φt, Φu, Φv, beq_self_eq_true, Φw, Φx, Φy, Φz, ΦA, eq_self, VCplan, less_refl_t, less_drop_t, VCops, VQops, guardVC, putVC, VC, VQ, ΦB, ΦC, ΦD, ΦE, ΦF, ΦG, ΦH, List.getElem?_cons_zero, List.getElem?_cons_succ, List.getElem?_nil, List.getElem?_toArray, List.map_cons, List.map_nil, ΦI, ΦJ, ΦK, ΦL, ΦM, ΦN, ΦO, ΦP, ΦQ, ΦR, ΦS, ΦT, List.drop_zero, ΦU, ΦV, List.take_zero, ΦW, Nat.reduceLT, ΦX, Nat.reduceAdd, Nat.reduceMul, Nat.reduceSub, Nat.add_zero, Nat.zero_add, Nat.mul_one, exists_eq_left, exists_eq_left', exists_const, existsSome, Nat.zero_le, Nat.le_refl, bin_gtr, hP]
  refine hK3 _ _ ?_
  try clear hK3 K3
  refine SX.cond_k fun X4 Y4 hX4 hY4 => ?_
  simp (maxSteps := 1000000) only [upd_app, Φa, Φb, Φc, ev, Φd, Φe, Φf, Φg, Φh, Φi, Φj, Φk, reduceIte, reduceCtorEq, if_true, if_false, Φl, Φm, Φn, Φo, true_and, and_true, false_and, and_false, true_implies, forall_const, false_implies, ne_eq, not_true_eq_false, not_false_eq_true, decide_true, decide_false, Φp, and_self, true_or, or_true, dite_true, dite_false, Φq, Φr, decide_eq_true_eq, decide_eq_false_iff_not, Φs, Φt, Φu, Φv, beq_self_eq_true, Φw, Φx, Φy, Φz, ΦA, eq_self, hP, condVC]
  refine ⟨fun hc4 => hX4 ?_, fun hc4 => hY4 ?_⟩
  · clear hX4 hY4 X4 Y4
    refine SX.seq_k fun K5 hK5 => ?_
    refine SX.region ?_
    simp (maxSteps := 1000000) only [upd_app, Φa, Φb, Φc, ev, Φd, Φe, Φf, Φg, Φh, Φi, Φj, Φk, reduceIte, reduceCtorEq, if_true, if_false, Φl, Φm, Φn, Φo, true_and, and_true, false_and, and_false, true_implies, forall_const, false_implies, ne_eq, not_true_eq_false, not_false_eq_true, decide_true, decide_false, Φp, and_self, true_or, or_true, dite_true, dite_false, Φq, Φr, decide_eq_true_eq, decide_eq_false_iff_not, Φs, Φt, Φu, Φv, beq_self_eq_true, Φw, Φx, Φy, Φz, ΦA, eq_self, VCplan, less_refl_t, less_drop_t, VCops, VQops, guardVC, putVC, VC, VQ, ΦB, ΦC, ΦD, ΦE, ΦF, ΦG, ΦH, List.getElem?_cons_zero, List.getElem?_cons_succ, List.getElem?_nil, List.getElem?_toArray, List.map_cons, List.map_nil, ΦI, ΦJ, ΦK, ΦL, ΦM, ΦN, ΦO, ΦP, ΦQ, ΦR, ΦS, ΦT, List.drop_zero, ΦU, ΦV, List.take_zero, ΦW, Nat.reduceLT, ΦX, Nat.reduceAdd, Nat.reduceMul, Nat.reduceSub, Nat.add_zero, Nat.zero_add, Nat.mul_one, exists_eq_left, exists_eq_left', exists_const, existsSome, Nat.zero_le, Nat.le_refl, partVC, buildVC, placeL, fillL, setN, cells_int, cells_bool, cells_string, cells_pointer, cells_slice, cells_agg, oneB_nil, oneB_cons, one_int, one_bool, one_string, one_pointer, one_slice, one_map, one_func, one_nilFunc, one_nilIface, one_iface, cells_map, cells_func, cells_nilFunc, cells_nilIface, cells_iface, T.elA_22, T.lay_22, T.szA_22, T.zr_22, Tryd.underlying22, T.szA_5, T.zr_5, Tryd.underlying5, st_ptr, storeVC, Addr.add_lit, Addr.add_zero', add_addS, Int.toNat_natCast, Int.toNat_zero, Int.toNat_one, Int.reduceToNat, hP]
    refine ⟨0, _, _, _, rfl, by decide, .inr (by decide), ?_⟩
    try simp (maxSteps := 1000000) only [upd_app, Φa, Φb, Φc, ev, Φd, Φe, Φf, Φg, Φh, Φi, Φj, Φk, reduceIte, reduceCtorEq, if_true, if_false, Φl, Φm, Φn, Φo, true_and, and_true, false_and, and_false, true_implies, forall_const, false_implies, ne_eq, not_true_eq_false, not_false_eq_true, decide_true, decide_false, Φp, and_self, true_or, or_true, dite_true, dite_false, Φq, Φr, decide_eq_true_eq, decide_eq_false_iff_not, Φs, Φt, Φu, Φv, beq_self_eq_true, Φw, Φx, Φy, Φz, ΦA, eq_self, VCplan, less_refl_t, less_drop_t, VCops, VQops, guardVC, putVC, VC, VQ, ΦB, ΦC, ΦD, ΦE, ΦF, ΦG, ΦH, List.getElem?_cons_zero, List.getElem?_cons_succ, List.getElem?_nil, List.getElem?_toArray, List.map_cons, List.map_nil, ΦI, ΦJ, ΦK, ΦL, ΦM, ΦN, ΦO, ΦP, ΦQ, ΦR, ΦS, ΦT, List.drop_zero, ΦU, ΦV, List.take_zero, ΦW, Nat.reduceLT, ΦX, Nat.reduceAdd, Nat.reduceMul, Nat.reduceSub, Nat.add_zero, Nat.zero_add, Nat.mul_one, exists_eq_left, exists_eq_left', exists_const, existsSome, Nat.zero_le, Nat.le_refl, partVC, buildVC, placeL, fillL, setN, cells_int, cells_bool, cells_string, cells_pointer, cells_slice, cells_agg, oneB_nil, oneB_cons, one_int, one_bool, one_string, one_pointer, one_slice, one_map, one_func, one_nilFunc, one_nilIface, one_iface, cells_map, cells_func, cells_nilFunc, cells_nilIface, cells_iface, T.elA_22, T.lay_22, T.szA_22, T.zr_22, Tryd.underlying22, T.szA_5, T.zr_5, Tryd.underlying5, st_ptr, storeVC, Addr.add_lit, Addr.add_zero', add_addS, Int.toNat_natCast, Int.toNat_zero, Int.toNat_one, Int.reduceToNat, hP]
    refine hK5 _ _ ?_
    try clear hK5 K5
    refine SX.ret ?_
    simp only [Φd, Φe, Φf, Φg, Φh, Φi, Φj, if_true, if_false, reduceIte, retQ_ret]
    try simp only [res0, res1, res2, res3, resX, resK, oneOr, ld_ptr, loadVC, loadN, ΦL, ΦM, Nat.reduceAdd, Nat.add_zero, Nat.zero_add, Addr.add_lit, Addr.add_zero', add_addS, T.elA_22, T.lay_22, T.szA_22, T.zr_22, Tryd.underlying22, upd_app, Φa, Φb, Φc, ev, Φd, Φe, Φf, Φg, Φh, Φi, Φj, Φk, reduceIte, reduceCtorEq, if_true, if_false, Φl, Φm, Φn, Φo, true_and, and_true, false_and, and_false, true_implies, forall_const, false_implies, ne_eq, not_true_eq_false, not_false_eq_true, decide_true, decide_false, Φp, and_self, true_or, or_true, dite_true, dite_false, Φq, Φr, decide_eq_true_eq, decide_eq_false_iff_not, Φs, Φt, Φu, Φv, beq_self_eq_true, Φw, Φx, Φy, Φz, ΦA, eq_self, hP]
    refine ⟨_, L, (by first | exact Less.refl _ | exact Less.drop _ _ | exact Less.drops (Less.drop _ _) | exact Less.drops (Less.drops (Less.drop _ _)) | exact Less.drops (Less.drops (Less.drops (Less.drop _ _))) | exact Less.drops (Less.drops (Less.drops (Less.drops (Less.drop _ _))))), ⟨_, Cell.own 0 rfl rfl, _, Cell.own 0 rfl rfl, _, Cell.own 0 rfl rfl, _, Cell.own 0 rfl rfl, _, Cell.own 0 rfl rfl, rfl⟩, ?_, rfl⟩
    rw [digit_five, digit, if_neg (by omega)]
    rfl
  · clear hX4 hY4 X4 Y4
    refine SX.skip ?_
    simp only [Φd, Φe, Φf, Φg, Φh, Φi, Φj, if_true, if_false, reduceIte]
    refine hK2 _ _ ?_
    try clear hK2 K2
    refine SX.seq_k fun K6 hK6 => ?_
    have h16 : n < 16 := by omega
    have hc : ∀ L k, k < 5 → Cell Γ L ⟨0, n * 5 + k, none⟩ (.int .u8 ((digit n).getD k 0)) := fun L k hk => hG L _ _ (digit_at h16 hk)
    refine SX.region ?_
    simp (maxSteps := 1000000) only [upd_app, Φa, Φb, Φc, ev, Φd, Φe, Φf, Φg, Φh, Φi, Φj, Φk, reduceIte, reduceCtorEq, if_true, if_false, Φl, Φm, Φn, Φo, true_and, and_true, false_and, and_false, true_implies, forall_const, false_implies, ne_eq, not_true_eq_false, not_false_eq_true, decide_true, decide_false, Φp, and_self, true_or, or_true, dite_true, dite_false, Φq, Φr, decide_eq_true_eq, decide_eq_false_iff_not, Φs, Φt, Φu, Φv, beq_self_eq_true, Φw, Φx, Φy, Φz, ΦA, eq_self, VCplan, less_refl_t, less_drop_t, VCops, VQops, guardVC, putVC, VC, VQ, ΦB, ΦC, ΦD, ΦE, ΦF, ΦG, ΦH, List.getElem?_cons_zero, List.getElem?_cons_succ, List.getElem?_nil, List.getElem?_toArray, List.map_cons, List.map_nil, ΦI, ΦJ, ΦK, ΦL, ΦM, ΦN, ΦO, ΦP, ΦQ, ΦR, ΦS, ΦT, List.drop_zero, ΦU, ΦV, List.take_zero, ΦW, Nat.reduceLT, ΦX, Nat.reduceAdd, Nat.reduceMul, Nat.reduceSub, Nat.add_zero, Nat.zero_add, Nat.mul_one, exists_eq_left, exists_eq_left', exists_const, existsSome, Nat.zero_le, Nat.le_refl, ia_slice, ia_arr, Addr.add_lit, Addr.add_zero', add_addS, Int.toNat_natCast, Int.toNat_zero, Int.toNat_one, Int.reduceToNat, T.elA_40, T.lay_40, T.szA_40, Tryd.underlying40, ld_ptr, loadVC, loadN, T.elA_22, T.lay_22, T.szA_22, T.zr_22, Tryd.underlying22, st_ptr, storeVC, setN, cells_int, cells_bool, cells_string, cells_pointer, cells_slice, cells_agg, oneB_nil, oneB_cons, one_int, one_bool, one_string, one_pointer, one_slice, one_map, one_func, one_nilFunc, one_nilIface, one_iface, cells_map, cells_func, cells_nilFunc, cells_nilIface, cells_iface, hP]
    refine ⟨⟨by omega, by omega⟩, _, hc _ 0 (by omega), _, hc _ 1 (by omega), _, hc _ 2 (by omega), _, hc _ 3 (by omega), _, hc _ 4 (by omega), ?_⟩
    try simp (maxSteps := 1000000) only [upd_app, Φa, Φb, Φc, ev, Φd, Φe, Φf, Φg, Φh, Φi, Φj, Φk, reduceIte, reduceCtorEq, if_true, if_false, Φl, Φm, Φn, Φo, true_and, and_true, false_and, and_false, true_implies, forall_const, false_implies, ne_eq, not_true_eq_false, not_false_eq_true, decide_true, decide_false, Φp, and_self, true_or, or_true, dite_true, dite_false, Φq, Φr, decide_eq_true_eq, decide_eq_false_iff_not, Φs, Φt, Φu, Φv, beq_self_eq_true, Φw, Φx, Φy, Φz, ΦA, eq_self, VCplan, less_refl_t, less_drop_t, VCops, VQops, guardVC, putVC, VC, VQ, ΦB, ΦC, ΦD, ΦE, ΦF, ΦG, ΦH, List.getElem?_cons_zero, List.getElem?_cons_succ, List.getElem?_nil, List.getElem?_toArray, List.map_cons, List.map_nil, ΦI, ΦJ, ΦK, ΦL, ΦM, ΦN, ΦO, ΦP, ΦQ, ΦR, ΦS, ΦT, List.drop_zero, ΦU, ΦV, List.take_zero, ΦW, Nat.reduceLT, ΦX, Nat.reduceAdd, Nat.reduceMul, Nat.reduceSub, Nat.add_zero, Nat.zero_add, Nat.mul_one, exists_eq_left, exists_eq_left', exists_const, existsSome, Nat.zero_le, Nat.le_refl, ia_slice, ia_arr, Addr.add_lit, Addr.add_zero', add_addS, Int.toNat_natCast, Int.toNat_zero, Int.toNat_one, Int.reduceToNat, T.elA_40, T.lay_40, T.szA_40, Tryd.underlying40, ld_ptr, loadVC, loadN, T.elA_22, T.lay_22, T.szA_22, T.zr_22, Tryd.underlying22, st_ptr, storeVC, setN, cells_int, cells_bool, cells_string, cells_pointer, cells_slice, cells_agg, oneB_nil, oneB_cons, one_int, one_bool, one_string, one_pointer, one_slice, one_map, one_func, one_nilFunc, one_nilIface, one_iface, cells_map, cells_func, cells_nilFunc, cells_nilIface, cells_iface, hP]
    refine ⟨0, _, _, _, rfl, by decide, .inr (by decide), ?_⟩
    try simp (maxSteps := 1000000) only [upd_app, Φa, Φb, Φc, ev, Φd, Φe, Φf, Φg, Φh, Φi, Φj, Φk, reduceIte, reduceCtorEq, if_true, if_false, Φl, Φm, Φn, Φo, true_and, and_true, false_and, and_false, true_implies, forall_const, false_implies, ne_eq, not_true_eq_false, not_false_eq_true, decide_true, decide_false, Φp, and_self, true_or, or_true, dite_true, dite_false, Φq, Φr, decide_eq_true_eq, decide_eq_false_iff_not, Φs, Φt, Φu, Φv, beq_self_eq_true, Φw, Φx, Φy, Φz, ΦA, eq_self, VCplan, less_refl_t, less_drop_t, VCops, VQops, guardVC, putVC, VC, VQ, ΦB, ΦC, ΦD, ΦE, ΦF, ΦG, ΦH, List.getElem?_cons_zero, List.getElem?_cons_succ, List.getElem?_nil, List.getElem?_toArray, List.map_cons, List.map_nil, ΦI, ΦJ, ΦK, ΦL, ΦM, ΦN, ΦO, ΦP, ΦQ, ΦR, ΦS, ΦT, List.drop_zero, ΦU, ΦV, List.take_zero, ΦW, Nat.reduceLT, ΦX, Nat.reduceAdd, Nat.reduceMul, Nat.reduceSub, Nat.add_zero, Nat.zero_add, Nat.mul_one, exists_eq_left, exists_eq_left', exists_const, existsSome, Nat.zero_le, Nat.le_refl, ia_slice, ia_arr, Addr.add_lit, Addr.add_zero', add_addS, Int.toNat_natCast, Int.toNat_zero, Int.toNat_one, Int.reduceToNat, T.elA_40, T.lay_40, T.szA_40, Tryd.underlying40, ld_ptr, loadVC, loadN, T.elA_22, T.lay_22, T.szA_22, T.zr_22, Tryd.underlying22, st_ptr, storeVC, setN, cells_int, cells_bool, cells_string, cells_pointer, cells_slice, cells_agg, oneB_nil, oneB_cons, one_int, one_bool, one_string, one_pointer, one_slice, one_map, one_func, one_nilFunc, one_nilIface, one_iface, cells_map, cells_func, cells_nilFunc, cells_nilIface, cells_iface, hP]
    refine hK6 _ _ ?_
    try clear hK6 K6
    refine SX.ret ?_
    simp only [Φd, Φe, Φf, Φg, Φh, Φi, Φj, if_true, if_false, reduceIte, retQ_ret]
    try simp only [res0, res1, res2, res3, resX, resK, oneOr, ld_ptr, loadVC, loadN, ΦL, ΦM, Nat.reduceAdd, Nat.add_zero, Nat.zero_add, Addr.add_lit, Addr.add_zero', add_addS, T.elA_22, T.lay_22, T.szA_22, T.zr_22, Tryd.underlying22, upd_app, Φa, Φb, Φc, ev, Φd, Φe, Φf, Φg, Φh, Φi, Φj, Φk, reduceIte, reduceCtorEq, if_true, if_false, Φl, Φm, Φn, Φo, true_and, and_true, false_and, and_false, true_implies, forall_const, false_implies, ne_eq, not_true_eq_false, not_false_eq_true, decide_true, decide_false, Φp, and_self, true_or, or_true, dite_true, dite_false, Φq, Φr, decide_eq_true_eq, decide_eq_false_iff_not, Φs, Φt, Φu, Φv, beq_self_eq_true, Φw, Φx, Φy, Φz, ΦA, eq_self, hP]
    refine ⟨_, L, (by first | exact Less.refl _ | exact Less.drop _ _ | exact Less.drops (Less.drop _ _) | exact Less.drops (Less.drops (Less.drop _ _)) | exact Less.drops (Less.drops (Less.drops (Less.drop _ _))) | exact Less.drops (Less.drops (Less.drops (Less.drops (Less.drop _ _))))), ⟨_, Cell.own 0 rfl rfl, _, Cell.own 0 rfl rfl, _, Cell.own 0 rfl rfl, _, Cell.own 0 rfl rfl, _, Cell.own 0 rfl rfl, rfl⟩, ?_, rfl⟩
    rw [digit_five]
    rfl

theorem facts_all : ((List.range 16).all fun n => ((List.range 5).all fun k => decide (bits .and .u8 ((digit n).getD k 0) 15 = 0) && decide ((digit n).getD k 0 ≠ 0)) && ((List.range n).all fun m => decide (digit n ≠ digit m))) = true := by kernel_rfl
theorem facts {n : Nat} (hn : n < 16) : (∀ k, k < 5 → bits .and .u8 ((digit n).getD k 0) 15 = 0 ∧ (digit n).getD k 0 ≠ 0) ∧ ∀ m, m < n → digit n ≠ digit m := by
  have h1 := List.all_eq_true.1 facts_all n (List.mem_range.2 hn)
  rw [Bool.and_eq_true] at h1
  refine ⟨fun k hk => ?_, fun m hm => ?_⟩
  · have h2 := List.all_eq_true.1 h1.1 k (List.mem_range.2 hk)
    simpa using h2
  · have h2 := List.all_eq_true.1 h1.2 m (List.mem_range.2 hm)
    exact of_decide_eq_true h2
theorem wf_all : ((List.range 17).all fun n => (digit n).all fun x => (Lit.int .u8 x).wf) = true := by kernel_rfl
theorem digit_wf (n : Nat) : ∀ x ∈ digit n, (Lit.int .u8 x).wf = true := by
  by_cases hn : n < 16
  · exact List.all_eq_true.1 (List.all_eq_true.1 wf_all n (List.mem_range.2 (by omega)))
  · have : digit n = digit 16 := by rw [digit, digit, if_neg hn, if_neg (by omega)]
    rw [this]
    exact List.all_eq_true.1 (List.all_eq_true.1 wf_all 16 (List.mem_range.2 (by omega)))
theorem cells5 : Tryd.prog.cellsOf 5 = 1 := by kernel_rfl
theorem cells22 : Tryd.prog.cellsOf 22 = 5 := by kernel_rfl
theorem digit_eq {P : Program} (hP : P = Tryd.prog) {xs ys : List Int} (hx : xs.length = 5) (hy : ys.length = 5) (wx : ∀ x ∈ xs, (Lit.int .u8 x).wf = true) (wy : ∀ x ∈ ys, (Lit.int .u8 x).wf = true) {K : Bool → Prop} (h : K (decide (xs = ys))) :
    aggEq P 22 (ints .u8 xs).toArray (ints .u8 ys).toArray K := by
  subst hP
  refine ⟨by kernel_rfl, by kernel_rfl, ?_, ?_, _, _, keyLits_arr (d := 7) Tryd.underlying22 Tryd.underlying5 cells5 cells22 hx wx, keyLits_arr (d := 7) Tryd.underlying22 Tryd.underlying5 cells5 cells22 hy wy, fun r hr => ?_⟩
  · simp [Value.formed, Tryd.underlying22, cells22, ints_length, hx]
  · simp [Value.formed, Tryd.underlying22, cells22, ints_length, hy]
  · rw [lits_inj] at hr
    have : r = decide (xs = ys) := by
      by_cases h : xs = ys
      · rw [hr.2 h, decide_eq_true h]
      · rw [decide_eq_false h]
        cases r
        · rfl
        · exact absurd (hr.1 rfl) h
    rwa [this]
theorem own5 {Γ : Ctx} {L : Hp} {b e n : Nat} {fr : Nat × Nat} (k : Nat) (hk : k < 5) : Cell Γ (some (b, .cells (ints .u8 (digit n)).toArray e fr) :: L) ⟨b, k, none⟩ (.int .u8 ((digit n).getD k 0)) :=
  Cell.own 0 rfl (by have := digit_len n; simp [ints_at, List.getElem?_eq_getElem (show k < (digit n).length by omega)])
theorem arr5 (n : Nat) : (#[.int .u8 ((digit n).getD 0 0), .int .u8 ((digit n).getD 1 0), .int .u8 ((digit n).getD 2 0), .int .u8 ((digit n).getD 3 0), .int .u8 ((digit n).getD 4 0)] : Array Value) = (ints .u8 (digit n)).toArray := by rw [digit_five]
set_option maxRecDepth 100000 in
theorem SpriteDigits_spec {Γ : Ctx} (hP : Γ.P = Tryd.prog) {L : Hp} (hG : Laid Γ) :
    SCall Γ 3 #[] L (fun v L' => v = .bool true ∧ L' = L) := by
  refine SCall.enter (n := 60) (res1 0) (hP ▸ Tryd.func3) rfl rfl (by simp) (res1_ok rfl) ?_
  refine SX.seq_k fun K1 hK1 => ?_
  refine SX.region ?_
  simp (maxSteps := 1000000) only [upd_app, Φa, Φb, Φc, ev, Φd, Φe, Φf, Φg, Φh, Φi, Φj, Φk, reduceIte, reduceCtorEq, if_true, if_false, Φl, Φm, Φn, Φo, true_and, and_true, false_and, and_false, true_implies, forall_const, false_implies, ne_eq, not_true_eq_false, not_false_eq_true, decide_true, decide_false, Φp, and_self, true_or, or_true, dite_true, dite_false, Φq, Φr, decide_eq_true_eq, decide_eq_false_iff_not, Φs, Φt, Φu, Φv, beq_self_eq_true, Φw, Φx, Φy, Φz, ΦA, eq_self, VCplan, less_refl_t, less_drop_t, VCops, VQops, guardVC, putVC, VC, VQ, ΦB, ΦC, ΦD, ΦE, ΦF, ΦG, ΦH, List.getElem?_cons_zero, List.getElem?_cons_succ, List.getElem?_nil, List.getElem?_toArray, List.map_cons, List.map_nil, ΦI, ΦJ, ΦK, ΦL, ΦM, ΦN, ΦO, ΦP, ΦQ, ΦR, ΦS, ΦT, List.drop_zero, ΦU, ΦV, List.take_zero, ΦW, Nat.reduceLT, ΦX, Nat.reduceAdd, Nat.reduceMul, Nat.reduceSub, Nat.add_zero, Nat.zero_add, Nat.mul_one, exists_eq_left, exists_eq_left', exists_const, existsSome, Nat.zero_le, Nat.le_refl, hP]
  refine hK1 _ _ ?_
  try clear hK1 K1
  refine SX.seq_k fun K2 hK2 => ?_
  refine SX.seq_k fun K3 hK3 => ?_
  refine SX.region ?_
  simp (maxSteps := 1000000) only [upd_app, Φa, Φb, Φc, ev, Φd, Φe, Φf, Φg, Φh, Φi, Φj, Φk, reduceIte, reduceCtorEq, if_true, if_false, Φl, Φm, Φn, Φo, true_and, and_true, false_and, and_false, true_implies, forall_const, false_implies, ne_eq, not_true_eq_false, not_false_eq_true, decide_true, decide_false, Φp, and_self, true_or, or_true, dite_true, dite_false, Φq, Φr, decide_eq_true_eq, decide_eq_false_iff_not, Φs, Φt, Φu, Φv, beq_self_eq_true, Φw, Φx, Φy, Φz, ΦA, eq_self, VCplan, less_refl_t, less_drop_t, VCops, VQops, guardVC, putVC, VC, VQ, ΦB, ΦC, ΦD, ΦE, ΦF, ΦG, ΦH, List.getElem?_cons_zero, List.getElem?_cons_succ, List.getElem?_nil, List.getElem?_toArray, List.map_cons, List.map_nil, ΦI, ΦJ, ΦK, ΦL, ΦM, ΦN, ΦO, ΦP, ΦQ, ΦR, ΦS, ΦT, List.drop_zero, ΦU, ΦV, List.take_zero, ΦW, Nat.reduceLT, ΦX, Nat.reduceAdd, Nat.reduceMul, Nat.reduceSub, Nat.add_zero, Nat.zero_add, Nat.mul_one, exists_eq_left, exists_eq_left', exists_const, existsSome, Nat.zero_le, Nat.le_refl, hP]
  refine hK3 _ _ ?_
  try clear hK3 K3
  refine SX.block ?_
  refine SX.live [1] (fun T1 hT1 => ?_)
  simp only [forall_mem_cons', forall_mem_nil', upd_app, Φa, Φb, Φc, ev, Φd, Φe, Φf, Φg, Φh, Φi, Φj, Φk, reduceIte, reduceCtorEq, if_true, if_false, Φl, Φm, Φn, Φo, true_and, and_true, false_and, and_false, true_implies, forall_const, false_implies, ne_eq, not_true_eq_false, not_false_eq_true, decide_true, decide_false, Φp, and_self, true_or, or_true, dite_true, dite_false, Φq, Φr, decide_eq_true_eq, decide_eq_false_iff_not, Φs, Φt, Φu, Φv, beq_self_eq_true, Φw, Φx, Φy, Φz, ΦA, eq_self, hP] at hT1
  have h1_1 := hT1; clear hT1
  refine SX.loop_k (fun (ss : (Nat)) T L' => (fun (n : Nat) => T 1 = .int .i64 (n : Int) ∧ L' = L ∧ (n ≤ 256)) (ss)) (fun (ss : (Nat)) => (fun (n : Nat) => 256 - n) (ss)) 0 ?_ ?_
  · try dsimp only
    refine ⟨?_, ?_, ?_⟩
    · first | exact h1_1 | (rw [h1_1]; rfl) | (rw [h1_1]; simp; done)
    · rfl
    · exact Nat.zero_le _
  · intro n T2 L2 hI K4 hK4
    dsimp only at hI hK4
    obtain ⟨h2_1, hL2, hn⟩ := hI
    replace hL2 := hL2.symm
    subst hL2
    clear h1_1 T1
    refine SX.seq_k fun K5 hK5 => ?_
    refine SX.seq_k fun K6 hK6 => ?_
    refine SX.region ?_
    simp (maxSteps := 1000000) only [upd_app, Φa, Φb, Φc, ev, Φd, Φe, Φf, Φg, Φh, Φi, Φj, Φk, reduceIte, reduceCtorEq, if_true, if_false, Φl, Φm, Φn, Φo, true_and, and_true, false_and, and_false, true_implies, forall_const, false_implies, ne_eq, not_true_eq_false, not_false_eq_true, decide_true, decide_false, Φp, and_self, true_or, or_true, dite_true, dite_false, Φq, Φr, decide_eq_true_eq, decide_eq_false_iff_not, Φs, Φt, Φu, Φv, beq_self_eq_true, Φw, Φx, Φy, Φz, ΦA, eq_self, VCplan, less_refl_t, less_drop_t, VCops, VQops, guardVC, putVC, VC, VQ, ΦB, ΦC, ΦD, ΦE, ΦF, ΦG, ΦH, List.getElem?_cons_zero, List.getElem?_cons_succ, List.getElem?_nil, List.getElem?_toArray, List.map_cons, List.map_nil, ΦI, ΦJ, ΦK, ΦL, ΦM, ΦN, ΦO, ΦP, ΦQ, ΦR, ΦS, ΦT, List.drop_zero, ΦU, ΦV, List.take_zero, ΦW, Nat.reduceLT, ΦX, Nat.reduceAdd, Nat.reduceMul, Nat.reduceSub, Nat.add_zero, Nat.zero_add, Nat.mul_one, exists_eq_left, exists_eq_left', exists_const, existsSome, Nat.zero_le, Nat.le_refl, bin_lss, hP, h2_1]
    refine hK6 _ _ ?_
    try clear hK6 K6
    refine SX.cond_k fun X7 Y7 hX7 hY7 => ?_
    simp (maxSteps := 1000000) only [upd_app, Φa, Φb, Φc, ev, Φd, Φe, Φf, Φg, Φh, Φi, Φj, Φk, reduceIte, reduceCtorEq, if_true, if_false, Φl, Φm, Φn, Φo, true_and, and_true, false_and, and_false, true_implies, forall_const, false_implies, ne_eq, not_true_eq_false, not_false_eq_true, decide_true, decide_false, Φp, and_self, true_or, or_true, dite_true, dite_false, Φq, Φr, decide_eq_true_eq, decide_eq_false_iff_not, Φs, Φt, Φu, Φv, beq_self_eq_true, Φw, Φx, Φy, Φz, ΦA, eq_self, hP, h2_1, condVC]
    refine ⟨fun hc6 => hX7 ?_, fun hc6 => hY7 ?_⟩
    · clear hX7 hY7 X7 Y7
      refine SX.skip ?_
      simp only [Φd, Φe, Φf, Φg, Φh, Φi, Φj, if_true, if_false, reduceIte]
      refine hK5 _ _ ?_
      try clear hK5 K5
      refine SX.seq_k fun K8 hK8 => ?_
      refine SX.block ?_
      refine SX.seq_k fun K9 hK9 => ?_
      have hw : IntKind.u8.wrap (n : Int) = (n : Int) := wu8 (by omega)
      refine SX.region ?_
      simp (maxSteps := 1000000) only [upd_app, Φa, Φb, Φc, ev, Φd, Φe, Φf, Φg, Φh, Φi, Φj, Φk, reduceIte, reduceCtorEq, if_true, if_false, Φl, Φm, Φn, Φo, true_and, and_true, false_and, and_false, true_implies, forall_const, false_implies, ne_eq, not_true_eq_false, not_false_eq_true, decide_true, decide_false, Φp, and_self, true_or, or_true, dite_true, dite_false, Φq, Φr, decide_eq_true_eq, decide_eq_false_iff_not, Φs, Φt, Φu, Φv, beq_self_eq_true, Φw, Φx, Φy, Φz, ΦA, eq_self, VCplan, less_refl_t, less_drop_t, VCops, VQops, guardVC, putVC, VC, VQ, ΦB, ΦC, ΦD, ΦE, ΦF, ΦG, ΦH, List.getElem?_cons_zero, List.getElem?_cons_succ, List.getElem?_nil, List.getElem?_toArray, List.map_cons, List.map_nil, ΦI, ΦJ, ΦK, ΦL, ΦM, ΦN, ΦO, ΦP, ΦQ, ΦR, ΦS, ΦT, List.drop_zero, ΦU, ΦV, List.take_zero, ΦW, Nat.reduceLT, ΦX, Nat.reduceAdd, Nat.reduceMul, Nat.reduceSub, Nat.add_zero, Nat.zero_add, Nat.mul_one, exists_eq_left, exists_eq_left', exists_const, existsSome, Nat.zero_le, Nat.le_refl, conv_int, conv_slice, conv_nil, cv_str, cv_int, cv_slice, T.szA_3, T.zr_3, Tryd.underlying3, T.szA_5, T.zr_5, Tryd.underlying5, qcall_f, call_f, len_slice, len_str, cap_slice, min_int, max_int, T.callable_5, cells_int, cells_bool, cells_string, cells_pointer, cells_slice, cells_agg, oneB_nil, oneB_cons, one_int, one_bool, one_string, one_pointer, one_slice, one_map, one_func, one_nilFunc, one_nilIface, one_iface, cells_map, cells_func, cells_nilFunc, cells_nilIface, cells_iface, T.elA_22, T.lay_22, T.szA_22, T.zr_22, Tryd.underlying22, st_ptr, storeVC, setN, Addr.add_lit, Addr.add_zero', add_addS, Int.toNat_natCast, Int.toNat_zero, Int.toNat_one, Int.reduceToNat, hP, h2_1, hw]
      refine SCall.mono (Digit_spec hP hG (by omega)) ?_
      rintro v_ L_ ⟨hv_, hL_⟩
      rw [hv_, hL_, digit_five]
      clear hv_ hL_ v_ L_
      try simp (maxSteps := 1000000) only [upd_app, Φa, Φb, Φc, ev, Φd, Φe, Φf, Φg, Φh, Φi, Φj, Φk, reduceIte, reduceCtorEq, if_true, if_false, Φl, Φm, Φn, Φo, true_and, and_true, false_and, and_false, true_implies, forall_const, false_implies, ne_eq, not_true_eq_false, not_false_eq_true, decide_true, decide_false, Φp, and_self, true_or, or_true, dite_true, dite_false, Φq, Φr, decide_eq_true_eq, decide_eq_false_iff_not, Φs, Φt, Φu, Φv, beq_self_eq_true, Φw, Φx, Φy, Φz, ΦA, eq_self, VCplan, less_refl_t, less_drop_t, VCops, VQops, guardVC, putVC, VC, VQ, ΦB, ΦC, ΦD, ΦE, ΦF, ΦG, ΦH, List.getElem?_cons_zero, List.getElem?_cons_succ, List.getElem?_nil, List.getElem?_toArray, List.map_cons, List.map_nil, ΦI, ΦJ, ΦK, ΦL, ΦM, ΦN, ΦO, ΦP, ΦQ, ΦR, ΦS, ΦT, List.drop_zero, ΦU, ΦV, List.take_zero, ΦW, Nat.reduceLT, ΦX, Nat.reduceAdd, Nat.reduceMul, Nat.reduceSub, Nat.add_zero, Nat.zero_add, Nat.mul_one, exists_eq_left, exists_eq_left', exists_const, existsSome, Nat.zero_le, Nat.le_refl, conv_int, conv_slice, conv_nil, cv_str, cv_int, cv_slice, T.szA_3, T.zr_3, Tryd.underlying3, T.szA_5, T.zr_5, Tryd.underlying5, qcall_f, call_f, len_slice, len_str, cap_slice, min_int, max_int, T.callable_5, cells_int, cells_bool, cells_string, cells_pointer, cells_slice, cells_agg, oneB_nil, oneB_cons, one_int, one_bool, one_string, one_pointer, one_slice, one_map, one_func, one_nilFunc, one_nilIface, one_iface, cells_map, cells_func, cells_nilFunc, cells_nilIface, cells_iface, T.elA_22, T.lay_22, T.szA_22, T.zr_22, Tryd.underlying22, st_ptr, storeVC, setN, Addr.add_lit, Addr.add_zero', add_addS, Int.toNat_natCast, Int.toNat_zero, Int.toNat_one, Int.reduceToNat, hP, h2_1, hw]
      intro b
      refine ⟨0, _, _, _, rfl, by decide, .inr (by decide), ?_⟩
      try simp (maxSteps := 1000000) only [upd_app, Φa, Φb, Φc, ev, Φd, Φe, Φf, Φg, Φh, Φi, Φj, Φk, reduceIte, reduceCtorEq, if_true, if_false, Φl, Φm, Φn, Φo, true_and, and_true, false_and, and_false, true_implies, forall_const, false_implies, ne_eq, not_true_eq_false, not_false_eq_true, decide_true, decide_false, Φp, and_self, true_or, or_true, dite_true, dite_false, Φq, Φr, decide_eq_true_eq, decide_eq_false_iff_not, Φs, Φt, Φu, Φv, beq_self_eq_true, Φw, Φx, Φy, Φz, ΦA, eq_self, VCplan, less_refl_t, less_drop_t, VCops, VQops, guardVC, putVC, VC, VQ, ΦB, ΦC, ΦD, ΦE, ΦF, ΦG, ΦH, List.getElem?_cons_zero, List.getElem?_cons_succ, List.getElem?_nil, List.getElem?_toArray, List.map_cons, List.map_nil, ΦI, ΦJ, ΦK, ΦL, ΦM, ΦN, ΦO, ΦP, ΦQ, ΦR, ΦS, ΦT, List.drop_zero, ΦU, ΦV, List.take_zero, ΦW, Nat.reduceLT, ΦX, Nat.reduceAdd, Nat.reduceMul, Nat.reduceSub, Nat.add_zero, Nat.zero_add, Nat.mul_one, exists_eq_left, exists_eq_left', exists_const, existsSome, Nat.zero_le, Nat.le_refl, conv_int, conv_slice, conv_nil, cv_str, cv_int, cv_slice, T.szA_3, T.zr_3, Tryd.underlying3, T.szA_5, T.zr_5, Tryd.underlying5, qcall_f, call_f, len_slice, len_str, cap_slice, min_int, max_int, T.callable_5, cells_int, cells_bool, cells_string, cells_pointer, cells_slice, cells_agg, oneB_nil, oneB_cons, one_int, one_bool, one_string, one_pointer, one_slice, one_map, one_func, one_nilFunc, one_nilIface, one_iface, cells_map, cells_func, cells_nilFunc, cells_nilIface, cells_iface, T.elA_22, T.lay_22, T.szA_22, T.zr_22, Tryd.underlying22, st_ptr, storeVC, setN, Addr.add_lit, Addr.add_zero', add_addS, Int.toNat_natCast, Int.toNat_zero, Int.toNat_one, Int.reduceToNat, hP, h2_1, hw]
      rw [arr5]
      refine hK9 _ _ ?_
      try clear hK9 K9
      refine SX.seq_k fun K10 hK10 => ?_
      refine SX.live [1, 2] (fun T3 hT3 => ?_)
      simp only [forall_mem_cons', forall_mem_nil', upd_app, Φa, Φb, Φc, ev, Φd, Φe, Φf, Φg, Φh, Φi, Φj, Φk, reduceIte, reduceCtorEq, if_true, if_false, Φl, Φm, Φn, Φo, true_and, and_true, false_and, and_false, true_implies, forall_const, false_implies, ne_eq, not_true_eq_false, not_false_eq_true, decide_true, decide_false, Φp, and_self, true_or, or_true, dite_true, dite_false, Φq, Φr, decide_eq_true_eq, decide_eq_false_iff_not, Φs, Φt, Φu, Φv, beq_self_eq_true, Φw, Φx, Φy, Φz, ΦA, eq_self, hP, h2_1] at hT3
      obtain ⟨h3_1, h3_2⟩ := hT3
      clear h2_1 T2
      refine SX.join (fun (ss : Unit) T L' => T 18 = .bool false ∧ T 1 = T3 1 ∧ T 2 = T3 2 ∧ L' = some (b, .cells (ints .u8 (digit n)).toArray 22 (0, 0)) :: L ∧ (True)) (fun K11 hK11 => ?_) ?_
      · simp only [h3_1, h3_2] at hK11
        refine SX.region ?_
        simp (maxSteps := 1000000) only [upd_app, Φa, Φb, Φc, ev, Φd, Φe, Φf, Φg, Φh, Φi, Φj, Φk, reduceIte, reduceCtorEq, if_true, if_false, Φl, Φm, Φn, Φo, true_and, and_true, false_and, and_false, true_implies, forall_const, false_implies, ne_eq, not_true_eq_false, not_false_eq_true, decide_true, decide_false, Φp, and_self, true_or, or_true, dite_true, dite_false, Φq, Φr, decide_eq_true_eq, decide_eq_false_iff_not, Φs, Φt, Φu, Φv, beq_self_eq_true, Φw, Φx, Φy, Φz, ΦA, eq_self, VCplan, less_refl_t, less_drop_t, VCops, VQops, guardVC, putVC, VC, VQ, ΦB, ΦC, ΦD, ΦE, ΦF, ΦG, ΦH, List.getElem?_cons_zero, List.getElem?_cons_succ, List.getElem?_nil, List.getElem?_toArray, List.map_cons, List.map_nil, ΦI, ΦJ, ΦK, ΦL, ΦM, ΦN, ΦO, ΦP, ΦQ, ΦR, ΦS, ΦT, List.drop_zero, ΦU, ΦV, List.take_zero, ΦW, Nat.reduceLT, ΦX, Nat.reduceAdd, Nat.reduceMul, Nat.reduceSub, Nat.add_zero, Nat.zero_add, Nat.mul_one, exists_eq_left, exists_eq_left', exists_const, existsSome, Nat.zero_le, Nat.le_refl, bin_gtr, ld_ptr, loadVC, loadN, Addr.add_lit, Addr.add_zero', add_addS, Int.toNat_natCast, Int.toNat_zero, Int.toNat_one, Int.reduceToNat, T.elA_22, T.lay_22, T.szA_22, T.zr_22, Tryd.underlying22, partVC, buildVC, placeL, fillL, setN, cells_int, cells_bool, cells_string, cells_pointer, cells_slice, cells_agg, oneB_nil, oneB_cons, one_int, one_bool, one_string, one_pointer, one_slice, one_map, one_func, one_nilFunc, one_nilIface, one_iface, cells_map, cells_func, cells_nilFunc, cells_nilIface, cells_iface, T.szA_5, T.zr_5, Tryd.underlying5, bin_neq, bin_neqb, bin_neqs, bin_neqa, pick_bool, hP, h3_1, h3_2]
        refine iteI (fun hg => ?_) (fun hg => ?_)
        · refine ⟨_, own5 0 (by omega), _, own5 1 (by omega), _, own5 2 (by omega), _, own5 3 (by omega), _, own5 4 (by omega), ?_⟩
          rw [arr5]
          refine digit_eq (xs := digit n) (ys := [0, 0, 0, 0, 0]) rfl (digit_len n) rfl (digit_wf n) (fun x hx => by simp at hx; subst hx; rfl) ?_
          rw [decide_eq_true (show digit n = [0, 0, 0, 0, 0] by rw [digit, if_neg (by omega)])]
          try simp (maxSteps := 1000000) only [upd_app, Φa, Φb, Φc, ev, Φd, Φe, Φf, Φg, Φh, Φi, Φj, Φk, reduceIte, reduceCtorEq, if_true, if_false, Φl, Φm, Φn, Φo, true_and, and_true, false_and, and_false, true_implies, forall_const, false_implies, ne_eq, not_true_eq_false, not_false_eq_true, decide_true, decide_false, Φp, and_self, true_or, or_true, dite_true, dite_false, Φq, Φr, decide_eq_true_eq, decide_eq_false_iff_not, Φs, Φt, Φu, Φv, beq_self_eq_true, Φw, Φx, Φy, Φz, ΦA, eq_self, VCplan, less_refl_t, less_drop_t, VCops, VQops, guardVC, putVC, VC, VQ, ΦB, ΦC, ΦD, ΦE, ΦF, ΦG, ΦH, List.getElem?_cons_zero, List.getElem?_cons_succ, List.getElem?_nil, List.getElem?_toArray, List.map_cons, List.map_nil, ΦI, ΦJ, ΦK, ΦL, ΦM, ΦN, ΦO, ΦP, ΦQ, ΦR, ΦS, ΦT, List.drop_zero, ΦU, ΦV, List.take_zero, ΦW, Nat.reduceLT, ΦX, Nat.reduceAdd, Nat.reduceMul, Nat.reduceSub, Nat.add_zero, Nat.zero_add, Nat.mul_one, exists_eq_left, exists_eq_left', exists_const, existsSome, Nat.zero_le, Nat.le_refl, bin_gtr, ld_ptr, loadVC, loadN, Addr.add_lit, Addr.add_zero', add_addS, Int.toNat_natCast, Int.toNat_zero, Int.toNat_one, Int.reduceToNat, T.elA_22, T.lay_22, T.szA_22, T.zr_22, Tryd.underlying22, partVC, buildVC, placeL, fillL, setN, cells_int, cells_bool, cells_string, cells_pointer, cells_slice, cells_agg, oneB_nil, oneB_cons, one_int, one_bool, one_string, one_pointer, one_slice, one_map, one_func, one_nilFunc, one_nilIface, one_iface, cells_map, cells_func, cells_nilFunc, cells_nilIface, cells_iface, T.szA_5, T.zr_5, Tryd.underlying5, bin_neq, bin_neqb, bin_neqs, bin_neqa, pick_bool, hP, h3_1, h3_2]
          refine hK11 () _ (some (b, .cells (ints .u8 (digit n)).toArray 22 (0, 0)) :: L) _ (by first | exact Less.refl _ | exact Less.drop _ _ | exact Less.drops (Less.drop _ _) | exact Less.drops (Less.drops (Less.drop _ _)) | exact Less.drops (Less.drops (Less.drops (Less.drop _ _))) | exact Less.drops (Less.drops (Less.drops (Less.drops (Less.drop _ _))))) ?_
          try dsimp only
          refine ⟨?_, ?_, ?_, ?_, ?_⟩
          · simp (maxSteps := 1000000) only [upd_app, Φa, Φb, Φc, ev, Φd, Φe, Φf, Φg, Φh, Φi, Φj, Φk, reduceIte, reduceCtorEq, if_true, if_false, Φl, Φm, Φn, Φo, true_and, and_true, false_and, and_false, true_implies, forall_const, false_implies, ne_eq, not_true_eq_false, not_false_eq_true, decide_true, decide_false, Φp, and_self, true_or, or_true, dite_true, dite_false, Φq, Φr, decide_eq_true_eq, decide_eq_false_iff_not, Φs, Φt, Φu, Φv, beq_self_eq_true, Φw, Φx, Φy, Φz, ΦA, eq_self, hP, h3_1, h3_2]
            first | done | rfl | skip
          · simp (maxSteps := 1000000) only [upd_app, Φa, Φb, Φc, ev, Φd, Φe, Φf, Φg, Φh, Φi, Φj, Φk, reduceIte, reduceCtorEq, if_true, if_false, Φl, Φm, Φn, Φo, true_and, and_true, false_and, and_false, true_implies, forall_const, false_implies, ne_eq, not_true_eq_false, not_false_eq_true, decide_true, decide_false, Φp, and_self, true_or, or_true, dite_true, dite_false, Φq, Φr, decide_eq_true_eq, decide_eq_false_iff_not, Φs, Φt, Φu, Φv, beq_self_eq_true, Φw, Φx, Φy, Φz, ΦA, eq_self, hP, h3_1, h3_2]
          · simp (maxSteps := 1000000) only [upd_app, Φa, Φb, Φc, ev, Φd, Φe, Φf, Φg, Φh, Φi, Φj, Φk, reduceIte, reduceCtorEq, if_true, if_false, Φl, Φm, Φn, Φo, true_and, and_true, false_and, and_false, true_implies, forall_const, false_implies, ne_eq, not_true_eq_false, not_false_eq_true, decide_true, decide_false, Φp, and_self, true_or, or_true, dite_true, dite_false, Φq, Φr, decide_eq_true_eq, decide_eq_false_iff_not, Φs, Φt, Φu, Φv, beq_self_eq_true, Φw, Φx, Φy, Φz, ΦA, eq_self, hP, h3_1, h3_2]
          · rfl
          · trivial
        · skip
          refine hK11 () _ (some (b, .cells (ints .u8 (digit n)).toArray 22 (0, 0)) :: L) _ (by first | exact Less.refl _ | exact Less.drop _ _ | exact Less.drops (Less.drop _ _) | exact Less.drops (Less.drops (Less.drop _ _)) | exact Less.drops (Less.drops (Less.drops (Less.drop _ _))) | exact Less.drops (Less.drops (Less.drops (Less.drops (Less.drop _ _))))) ?_
          try dsimp only
          refine ⟨?_, ?_, ?_, ?_, ?_⟩
          · simp (maxSteps := 1000000) only [upd_app, Φa, Φb, Φc, ev, Φd, Φe, Φf, Φg, Φh, Φi, Φj, Φk, reduceIte, reduceCtorEq, if_true, if_false, Φl, Φm, Φn, Φo, true_and, and_true, false_and, and_false, true_implies, forall_const, false_implies, ne_eq, not_true_eq_false, not_false_eq_true, decide_true, decide_false, Φp, and_self, true_or, or_true, dite_true, dite_false, Φq, Φr, decide_eq_true_eq, decide_eq_false_iff_not, Φs, Φt, Φu, Φv, beq_self_eq_true, Φw, Φx, Φy, Φz, ΦA, eq_self, hP, h3_1, h3_2]
            first | done | rfl | skip
          · simp (maxSteps := 1000000) only [upd_app, Φa, Φb, Φc, ev, Φd, Φe, Φf, Φg, Φh, Φi, Φj, Φk, reduceIte, reduceCtorEq, if_true, if_false, Φl, Φm, Φn, Φo, true_and, and_true, false_and, and_false, true_implies, forall_const, false_implies, ne_eq, not_true_eq_false, not_false_eq_true, decide_true, decide_false, Φp, and_self, true_or, or_true, dite_true, dite_false, Φq, Φr, decide_eq_true_eq, decide_eq_false_iff_not, Φs, Φt, Φu, Φv, beq_self_eq_true, Φw, Φx, Φy, Φz, ΦA, eq_self, hP, h3_1, h3_2]
          · simp (maxSteps := 1000000) only [upd_app, Φa, Φb, Φc, ev, Φd, Φe, Φf, Φg, Φh, Φi, Φj, Φk, reduceIte, reduceCtorEq, if_true, if_false, Φl, Φm, Φn, Φo, true_and, and_true, false_and, and_false, true_implies, forall_const, false_implies, ne_eq, not_true_eq_false, not_false_eq_true, decide_true, decide_false, Φp, and_self, true_or, or_true, dite_true, dite_false, Φq, Φr, decide_eq_true_eq, decide_eq_false_iff_not, Φs, Φt, Φu, Φv, beq_self_eq_true, Φw, Φx, Φy, Φz, ΦA, eq_self, hP, h3_1, h3_2]
          · rfl
          · trivial
      · intro ss T4 L4 hI
        simp only [h3_1, h3_2] at hI 
        obtain ⟨h4_18, h4_1, h4_2, hL4, hinv⟩ := hI
        replace hL4 := hL4.symm
        subst hL4
        clear h3_1 h3_2 T3
        refine SX.cond_k fun X12 Y12 hX12 hY12 => ?_
        simp (maxSteps := 1000000) only [upd_app, Φa, Φb, Φc, ev, Φd, Φe, Φf, Φg, Φh, Φi, Φj, Φk, reduceIte, reduceCtorEq, if_true, if_false, Φl, Φm, Φn, Φo, true_and, and_true, false_and, and_false, true_implies, forall_const, false_implies, ne_eq, not_true_eq_false, not_false_eq_true, decide_true, decide_false, Φp, and_self, true_or, or_true, dite_true, dite_false, Φq, Φr, decide_eq_true_eq, decide_eq_false_iff_not, Φs, Φt, Φu, Φv, beq_self_eq_true, Φw, Φx, Φy, Φz, ΦA, eq_self, hP, h4_18, h4_1, h4_2, condVC]
        refine hY12 ?_
        clear hX12 hY12 X12 Y12
        refine SX.skip ?_
        simp only [Φd, Φe, Φf, Φg, Φh, Φi, Φj, if_true, if_false, reduceIte]
        refine hK10 _ _ ?_
        try clear hK10 K10
        refine SX.seq_k fun K13 hK13 => ?_
        refine SX.seq_k fun K14 hK14 => ?_
        refine SX.region ?_
        simp (maxSteps := 1000000) only [upd_app, Φa, Φb, Φc, ev, Φd, Φe, Φf, Φg, Φh, Φi, Φj, Φk, reduceIte, reduceCtorEq, if_true, if_false, Φl, Φm, Φn, Φo, true_and, and_true, false_and, and_false, true_implies, forall_const, false_implies, ne_eq, not_true_eq_false, not_false_eq_true, decide_true, decide_false, Φp, and_self, true_or, or_true, dite_true, dite_false, Φq, Φr, decide_eq_true_eq, decide_eq_false_iff_not, Φs, Φt, Φu, Φv, beq_self_eq_true, Φw, Φx, Φy, Φz, ΦA, eq_self, VCplan, less_refl_t, less_drop_t, VCops, VQops, guardVC, putVC, VC, VQ, ΦB, ΦC, ΦD, ΦE, ΦF, ΦG, ΦH, List.getElem?_cons_zero, List.getElem?_cons_succ, List.getElem?_nil, List.getElem?_toArray, List.map_cons, List.map_nil, ΦI, ΦJ, ΦK, ΦL, ΦM, ΦN, ΦO, ΦP, ΦQ, ΦR, ΦS, ΦT, List.drop_zero, ΦU, ΦV, List.take_zero, ΦW, Nat.reduceLT, ΦX, Nat.reduceAdd, Nat.reduceMul, Nat.reduceSub, Nat.add_zero, Nat.zero_add, Nat.mul_one, exists_eq_left, exists_eq_left', exists_const, existsSome, Nat.zero_le, Nat.le_refl, hP, h4_18, h4_1, h4_2]
        refine hK14 _ _ ?_
        try clear hK14 K14
        refine SX.block ?_
        refine SX.live [1, 2, 3] (fun T5 hT5 => ?_)
        simp only [forall_mem_cons', forall_mem_nil', upd_app, Φa, Φb, Φc, ev, Φd, Φe, Φf, Φg, Φh, Φi, Φj, Φk, reduceIte, reduceCtorEq, if_true, if_false, Φl, Φm, Φn, Φo, true_and, and_true, false_and, and_false, true_implies, forall_const, false_implies, ne_eq, not_true_eq_false, not_false_eq_true, decide_true, decide_false, Φp, and_self, true_or, or_true, dite_true, dite_false, Φq, Φr, decide_eq_true_eq, decide_eq_false_iff_not, Φs, Φt, Φu, Φv, beq_self_eq_true, Φw, Φx, Φy, Φz, ΦA, eq_self, hP, h4_18, h4_1, h4_2] at hT5
        obtain ⟨h5_1, h5_2, h5_3⟩ := hT5
        clear h4_18 h4_1 h4_2 T4
        refine SX.loop_k (fun (ss : (Nat)) T L' => (fun (k : Nat) => T 3 = .int .i64 (k : Int) ∧ T 1 = T5 1 ∧ T 2 = T5 2 ∧ L' = some (b, .cells (ints .u8 (digit n)).toArray 22 (0, 0)) :: L ∧ (k ≤ 5)) (ss)) (fun (ss : (Nat)) => (fun (k : Nat) => 5 - k) (ss)) 0 ?_ ?_
        · try dsimp only
          refine ⟨?_, ?_, ?_, ?_, ?_⟩
          · first | exact h5_3 | (rw [h5_3]; rfl) | (rw [h5_3]; simp; done)
          · rfl
          · rfl
          · rfl
          · exact Nat.zero_le _
        · intro k T6 L6 hI K15 hK15
          dsimp only at hI hK15
          simp only [h5_1, h5_2] at hI hK15
          obtain ⟨h6_3, h6_1, h6_2, hL6, hk⟩ := hI
          replace hL6 := hL6.symm
          subst hL6
          clear h5_1 h5_2 h5_3 T5
          refine SX.seq_k fun K16 hK16 => ?_
          refine SX.seq_k fun K17 hK17 => ?_
          refine SX.region_x ?_
          refine RX.live [1, 2, 3] (fun T7 hT7 => ?_)
          simp only [forall_mem_cons', forall_mem_nil', upd_app, Φa, Φb, Φc, ev, Φd, Φe, Φf, Φg, Φh, Φi, Φj, Φk, reduceIte, reduceCtorEq, if_true, if_false, Φl, Φm, Φn, Φo, true_and, and_true, false_and, and_false, true_implies, forall_const, false_implies, ne_eq, not_true_eq_false, not_false_eq_true, decide_true, decide_false, Φp, and_self, true_or, or_true, dite_true, dite_false, Φq, Φr, decide_eq_true_eq, decide_eq_false_iff_not, Φs, Φt, Φu, Φv, beq_self_eq_true, Φw, Φx, Φy, Φz, ΦA, eq_self, hP, h6_3, h6_1, h6_2] at hT7
          obtain ⟨h7_1, h7_2, h7_3⟩ := hT7
          clear h6_3 h6_1 h6_2 T6
          refine RX.join 6 (fun (ss : Unit) T L' => T 24 = .bool (decide (k < 5 ∧ n < 16)) ∧ T 1 = T7 1 ∧ T 2 = T7 2 ∧ T 3 = T7 3 ∧ L' = some (b, .cells (ints .u8 (digit n)).toArray 22 (0, 0)) :: L ∧ (True)) (fun K18 hK18 => ?_) ?_
          · simp only [h7_1, h7_2, h7_3] at hK18
            simp (maxSteps := 1000000) only [upd_app, Φa, Φb, Φc, ev, Φd, Φe, Φf, Φg, Φh, Φi, Φj, Φk, reduceIte, reduceCtorEq, if_true, if_false, Φl, Φm, Φn, Φo, true_and, and_true, false_and, and_false, true_implies, forall_const, false_implies, ne_eq, not_true_eq_false, not_false_eq_true, decide_true, decide_false, Φp, and_self, true_or, or_true, dite_true, dite_false, Φq, Φr, decide_eq_true_eq, decide_eq_false_iff_not, Φs, Φt, Φu, Φv, beq_self_eq_true, Φw, Φx, Φy, Φz, ΦA, eq_self, VCplan, less_refl_t, less_drop_t, VCops, VQops, guardVC, putVC, VC, VQ, ΦB, ΦC, ΦD, ΦE, ΦF, ΦG, ΦH, List.getElem?_cons_zero, List.getElem?_cons_succ, List.getElem?_nil, List.getElem?_toArray, List.map_cons, List.map_nil, ΦI, ΦJ, ΦK, ΦL, ΦM, ΦN, ΦO, ΦP, ΦQ, ΦR, ΦS, ΦT, List.drop_zero, ΦU, ΦV, List.take_zero, ΦW, Nat.reduceLT, ΦX, Nat.reduceAdd, Nat.reduceMul, Nat.reduceSub, Nat.add_zero, Nat.zero_add, Nat.mul_one, exists_eq_left, exists_eq_left', exists_const, existsSome, Nat.zero_le, Nat.le_refl, bin_lss, pick_bool, hP, h7_1, h7_2, h7_3]
            refine iteI (fun hg => ?_) (fun hg => ?_)
            · skip
              refine hK18 () _ (some (b, .cells (ints .u8 (digit n)).toArray 22 (0, 0)) :: L) _ (by first | exact Less.refl _ | exact Less.drop _ _ | exact Less.drops (Less.drop _ _) | exact Less.drops (Less.drops (Less.drop _ _)) | exact Less.drops (Less.drops (Less.drops (Less.drop _ _))) | exact Less.drops (Less.drops (Less.drops (Less.drops (Less.drop _ _))))) ?_
              try dsimp only
              refine ⟨?_, ?_, ?_, ?_, ?_, ?_⟩
              · simp (maxSteps := 1000000) only [upd_app, Φa, Φb, Φc, ev, Φd, Φe, Φf, Φg, Φh, Φi, Φj, Φk, reduceIte, reduceCtorEq, if_true, if_false, Φl, Φm, Φn, Φo, true_and, and_true, false_and, and_false, true_implies, forall_const, false_implies, ne_eq, not_true_eq_false, not_false_eq_true, decide_true, decide_false, Φp, and_self, true_or, or_true, dite_true, dite_false, Φq, Φr, decide_eq_true_eq, decide_eq_false_iff_not, Φs, Φt, Φu, Φv, beq_self_eq_true, Φw, Φx, Φy, Φz, ΦA, eq_self, hP, h7_1, h7_2, h7_3]
                first | exact congrArg _ (decide_eq_decide.2 (by omega)) | exact congrArg _ (decide_eq_true (by omega)).symm | exact congrArg _ (decide_eq_false (by omega)).symm
              · simp (maxSteps := 1000000) only [upd_app, Φa, Φb, Φc, ev, Φd, Φe, Φf, Φg, Φh, Φi, Φj, Φk, reduceIte, reduceCtorEq, if_true, if_false, Φl, Φm, Φn, Φo, true_and, and_true, false_and, and_false, true_implies, forall_const, false_implies, ne_eq, not_true_eq_false, not_false_eq_true, decide_true, decide_false, Φp, and_self, true_or, or_true, dite_true, dite_false, Φq, Φr, decide_eq_true_eq, decide_eq_false_iff_not, Φs, Φt, Φu, Φv, beq_self_eq_true, Φw, Φx, Φy, Φz, ΦA, eq_self, hP, h7_1, h7_2, h7_3]
              · simp (maxSteps := 1000000) only [upd_app, Φa, Φb, Φc, ev, Φd, Φe, Φf, Φg, Φh, Φi, Φj, Φk, reduceIte, reduceCtorEq, if_true, if_false, Φl, Φm, Φn, Φo, true_and, and_true, false_and, and_false, true_implies, forall_const, false_implies, ne_eq, not_true_eq_false, not_false_eq_true, decide_true, decide_false, Φp, and_self, true_or, or_true, dite_true, dite_false, Φq, Φr, decide_eq_true_eq, decide_eq_false_iff_not, Φs, Φt, Φu, Φv, beq_self_eq_true, Φw, Φx, Φy, Φz, ΦA, eq_self, hP, h7_1, h7_2, h7_3]
              · simp (maxSteps := 1000000) only [upd_app, Φa, Φb, Φc, ev, Φd, Φe, Φf, Φg, Φh, Φi, Φj, Φk, reduceIte, reduceCtorEq, if_true, if_false, Φl, Φm, Φn, Φo, true_and, and_true, false_and, and_false, true_implies, forall_const, false_implies, ne_eq, not_true_eq_false, not_false_eq_true, decide_true, decide_false, Φp, and_self, true_or, or_true, dite_true, dite_false, Φq, Φr, decide_eq_true_eq, decide_eq_false_iff_not, Φs, Φt, Φu, Φv, beq_self_eq_true, Φw, Φx, Φy, Φz, ΦA, eq_self, hP, h7_1, h7_2, h7_3]
              · rfl
              · trivial
            · skip
              refine hK18 () _ (some (b, .cells (ints .u8 (digit n)).toArray 22 (0, 0)) :: L) _ (by first | exact Less.refl _ | exact Less.drop _ _ | exact Less.drops (Less.drop _ _) | exact Less.drops (Less.drops (Less.drop _ _)) | exact Less.drops (Less.drops (Less.drops (Less.drop _ _))) | exact Less.drops (Less.drops (Less.drops (Less.drops (Less.drop _ _))))) ?_
              try dsimp only
              refine ⟨?_, ?_, ?_, ?_, ?_, ?_⟩
              · simp (maxSteps := 1000000) only [upd_app, Φa, Φb, Φc, ev, Φd, Φe, Φf, Φg, Φh, Φi, Φj, Φk, reduceIte, reduceCtorEq, if_true, if_false, Φl, Φm, Φn, Φo, true_and, and_true, false_and, and_false, true_implies, forall_const, false_implies, ne_eq, not_true_eq_false, not_false_eq_true, decide_true, decide_false, Φp, and_self, true_or, or_true, dite_true, dite_false, Φq, Φr, decide_eq_true_eq, decide_eq_false_iff_not, Φs, Φt, Φu, Φv, beq_self_eq_true, Φw, Φx, Φy, Φz, ΦA, eq_self, hP, h7_1, h7_2, h7_3]
                first | exact congrArg _ (decide_eq_decide.2 (by omega)) | exact congrArg _ (decide_eq_true (by omega)).symm | exact congrArg _ (decide_eq_false (by omega)).symm
              · simp (maxSteps := 1000000) only [upd_app, Φa, Φb, Φc, ev, Φd, Φe, Φf, Φg, Φh, Φi, Φj, Φk, reduceIte, reduceCtorEq, if_true, if_false, Φl, Φm, Φn, Φo, true_and, and_true, false_and, and_false, true_implies, forall_const, false_implies, ne_eq, not_true_eq_false, not_false_eq_true, decide_true, decide_false, Φp, and_self, true_or, or_true, dite_true, dite_false, Φq, Φr, decide_eq_true_eq, decide_eq_false_iff_not, Φs, Φt, Φu, Φv, beq_self_eq_true, Φw, Φx, Φy, Φz, ΦA, eq_self, hP, h7_1, h7_2, h7_3]
              · simp (maxSteps := 1000000) only [upd_app, Φa, Φb, Φc, ev, Φd, Φe, Φf, Φg, Φh, Φi, Φj, Φk, reduceIte, reduceCtorEq, if_true, if_false, Φl, Φm, Φn, Φo, true_and, and_true, false_and, and_false, true_implies, forall_const, false_implies, ne_eq, not_true_eq_false, not_false_eq_true, decide_true, decide_false, Φp, and_self, true_or, or_true, dite_true, dite_false, Φq, Φr, decide_eq_true_eq, decide_eq_false_iff_not, Φs, Φt, Φu, Φv, beq_self_eq_true, Φw, Φx, Φy, Φz, ΦA, eq_self, hP, h7_1, h7_2, h7_3]
              · simp (maxSteps := 1000000) only [upd_app, Φa, Φb, Φc, ev, Φd, Φe, Φf, Φg, Φh, Φi, Φj, Φk, reduceIte, reduceCtorEq, if_true, if_false, Φl, Φm, Φn, Φo, true_and, and_true, false_and, and_false, true_implies, forall_const, false_implies, ne_eq, not_true_eq_false, not_false_eq_true, decide_true, decide_false, Φp, and_self, true_or, or_true, dite_true, dite_false, Φq, Φr, decide_eq_true_eq, decide_eq_false_iff_not, Φs, Φt, Φu, Φv, beq_self_eq_true, Φw, Φx, Φy, Φz, ΦA, eq_self, hP, h7_1, h7_2, h7_3]
              · rfl
              · trivial
          · intro ss T8 L8 hI
            simp only [h7_1, h7_2, h7_3] at hI 
            obtain ⟨h8_24, h8_1, h8_2, h8_3, hL8, hinv⟩ := hI
            replace hL8 := hL8.symm
            subst hL8
            clear h7_1 h7_2 h7_3 T7
            refine RX.done ?_
            simp (maxSteps := 1000000) only [upd_app, Φa, Φb, Φc, ev, Φd, Φe, Φf, Φg, Φh, Φi, Φj, Φk, reduceIte, reduceCtorEq, if_true, if_false, Φl, Φm, Φn, Φo, true_and, and_true, false_and, and_false, true_implies, forall_const, false_implies, ne_eq, not_true_eq_false, not_false_eq_true, decide_true, decide_false, Φp, and_self, true_or, or_true, dite_true, dite_false, Φq, Φr, decide_eq_true_eq, decide_eq_false_iff_not, Φs, Φt, Φu, Φv, beq_self_eq_true, Φw, Φx, Φy, Φz, ΦA, eq_self, VCplan, less_refl_t, less_drop_t, VCops, VQops, guardVC, putVC, VC, VQ, ΦB, ΦC, ΦD, ΦE, ΦF, ΦG, ΦH, List.getElem?_cons_zero, List.getElem?_cons_succ, List.getElem?_nil, List.getElem?_toArray, List.map_cons, List.map_nil, ΦI, ΦJ, ΦK, ΦL, ΦM, ΦN, ΦO, ΦP, ΦQ, ΦR, ΦS, ΦT, List.drop_zero, ΦU, ΦV, List.take_zero, ΦW, Nat.reduceLT, ΦX, Nat.reduceAdd, Nat.reduceMul, Nat.reduceSub, Nat.add_zero, Nat.zero_add, Nat.mul_one, exists_eq_left, exists_eq_left', exists_const, existsSome, Nat.zero_le, Nat.le_refl, hP, h8_24, h8_1, h8_2, h8_3]
            refine hK17 _ _ ?_
            try clear hK17 K17
            refine SX.cond_k fun X19 Y19 hX19 hY19 => ?_
            simp (maxSteps := 1000000) only [upd_app, Φa, Φb, Φc, ev, Φd, Φe, Φf, Φg, Φh, Φi, Φj, Φk, reduceIte, reduceCtorEq, if_true, if_false, Φl, Φm, Φn, Φo, true_and, and_true, false_and, and_false, true_implies, forall_const, false_implies, ne_eq, not_true_eq_false, not_false_eq_true, decide_true, decide_false, Φp, and_self, true_or, or_true, dite_true, dite_false, Φq, Φr, decide_eq_true_eq, decide_eq_false_iff_not, Φs, Φt, Φu, Φv, beq_self_eq_true, Φw, Φx, Φy, Φz, ΦA, eq_self, hP, h8_24, h8_1, h8_2, h8_3, condVC]
            refine ⟨fun hc24 => hX19 ?_, fun hc24 => hY19 ?_⟩
            · clear hX19 hY19 X19 Y19
              refine SX.skip ?_
              simp only [Φd, Φe, Φf, Φg, Φh, Φi, Φj, if_true, if_false, reduceIte]
              refine hK16 _ _ ?_
              try clear hK16 K16
              refine SX.seq_k fun K20 hK20 => ?_
              refine SX.block ?_
              refine SX.seq_k fun K21 hK21 => ?_
              have hf := (facts hc24.2).1 k hc24.1
              have hck : Cell Γ (some (b, .cells (ints .u8 (digit n)).toArray 22 (0, 0)) :: L) ⟨b, k, none⟩ (.int .u8 ((digit n).getD k 0)) := own5 k hc24.1
              refine SX.region ?_
              simp (maxSteps := 1000000) only [upd_app, Φa, Φb, Φc, ev, Φd, Φe, Φf, Φg, Φh, Φi, Φj, Φk, reduceIte, reduceCtorEq, if_true, if_false, Φl, Φm, Φn, Φo, true_and, and_true, false_and, and_false, true_implies, forall_const, false_implies, ne_eq, not_true_eq_false, not_false_eq_true, decide_true, decide_false, Φp, and_self, true_or, or_true, dite_true, dite_false, Φq, Φr, decide_eq_true_eq, decide_eq_false_iff_not, Φs, Φt, Φu, Φv, beq_self_eq_true, Φw, Φx, Φy, Φz, ΦA, eq_self, VCplan, less_refl_t, less_drop_t, VCops, VQops, guardVC, putVC, VC, VQ, ΦB, ΦC, ΦD, ΦE, ΦF, ΦG, ΦH, List.getElem?_cons_zero, List.getElem?_cons_succ, List.getElem?_nil, List.getElem?_toArray, List.map_cons, List.map_nil, ΦI, ΦJ, ΦK, ΦL, ΦM, ΦN, ΦO, ΦP, ΦQ, ΦR, ΦS, ΦT, List.drop_zero, ΦU, ΦV, List.take_zero, ΦW, Nat.reduceLT, ΦX, Nat.reduceAdd, Nat.reduceMul, Nat.reduceSub, Nat.add_zero, Nat.zero_add, Nat.mul_one, exists_eq_left, exists_eq_left', exists_const, existsSome, Nat.zero_le, Nat.le_refl, ia_slice, ia_arr, Addr.add_lit, Addr.add_zero', add_addS, Int.toNat_natCast, Int.toNat_zero, Int.toNat_one, Int.reduceToNat, T.elA_22, T.lay_22, T.szA_22, T.zr_22, Tryd.underlying22, ld_ptr, loadVC, loadN, T.szA_5, T.zr_5, Tryd.underlying5, bin_and, bin_neq, bin_neqb, bin_neqs, bin_neqa, bin_eql, bin_eqlb, bin_eqls, bin_eqla, pick_bool, hP, h8_24, h8_1, h8_2, h8_3, hf.1]
              refine ⟨⟨by omega, by omega⟩, _, hck, ?_⟩
              try simp (maxSteps := 1000000) only [upd_app, Φa, Φb, Φc, ev, Φd, Φe, Φf, Φg, Φh, Φi, Φj, Φk, reduceIte, reduceCtorEq, if_true, if_false, Φl, Φm, Φn, Φo, true_and, and_true, false_and, and_false, true_implies, forall_const, false_implies, ne_eq, not_true_eq_false, not_false_eq_true, decide_true, decide_false, Φp, and_self, true_or, or_true, dite_true, dite_false, Φq, Φr, decide_eq_true_eq, decide_eq_false_iff_not, Φs, Φt, Φu, Φv, beq_self_eq_true, Φw, Φx, Φy, Φz, ΦA, eq_self, VCplan, less_refl_t, less_drop_t, VCops, VQops, guardVC, putVC, VC, VQ, ΦB, ΦC, ΦD, ΦE, ΦF, ΦG, ΦH, List.getElem?_cons_zero, List.getElem?_cons_succ, List.getElem?_nil, List.getElem?_toArray, List.map_cons, List.map_nil, ΦI, ΦJ, ΦK, ΦL, ΦM, ΦN, ΦO, ΦP, ΦQ, ΦR, ΦS, ΦT, List.drop_zero, ΦU, ΦV, List.take_zero, ΦW, Nat.reduceLT, ΦX, Nat.reduceAdd, Nat.reduceMul, Nat.reduceSub, Nat.add_zero, Nat.zero_add, Nat.mul_one, exists_eq_left, exists_eq_left', exists_const, existsSome, Nat.zero_le, Nat.le_refl, ia_slice, ia_arr, Addr.add_lit, Addr.add_zero', add_addS, Int.toNat_natCast, Int.toNat_zero, Int.toNat_one, Int.reduceToNat, T.elA_22, T.lay_22, T.szA_22, T.zr_22, Tryd.underlying22, ld_ptr, loadVC, loadN, T.szA_5, T.zr_5, Tryd.underlying5, bin_and, bin_neq, bin_neqb, bin_neqs, bin_neqa, bin_eql, bin_eqlb, bin_eqls, bin_eqla, pick_bool, hP, h8_24, h8_1, h8_2, h8_3, hf.1]
              refine ⟨⟨by omega, by omega⟩, _, hck, ?_⟩
              try simp (maxSteps := 1000000) only [upd_app, Φa, Φb, Φc, ev, Φd, Φe, Φf, Φg, Φh, Φi, Φj, Φk, reduceIte, reduceCtorEq, if_true, if_false, Φl, Φm, Φn, Φo, true_and, and_true, false_and, and_false, true_implies, forall_const, false_implies, ne_eq, not_true_eq_false, not_false_eq_true, decide_true, decide_false, Φp, and_self, true_or, or_true, dite_true, dite_false, Φq, Φr, decide_eq_true_eq, decide_eq_false_iff_not, Φs, Φt, Φu, Φv, beq_self_eq_true, Φw, Φx, Φy, Φz, ΦA, eq_self, VCplan, less_refl_t, less_drop_t, VCops, VQops, guardVC, putVC, VC, VQ, ΦB, ΦC, ΦD, ΦE, ΦF, ΦG, ΦH, List.getElem?_cons_zero, List.getElem?_cons_succ, List.getElem?_nil, List.getElem?_toArray, List.map_cons, List.map_nil, ΦI, ΦJ, ΦK, ΦL, ΦM, ΦN, ΦO, ΦP, ΦQ, ΦR, ΦS, ΦT, List.drop_zero, ΦU, ΦV, List.take_zero, ΦW, Nat.reduceLT, ΦX, Nat.reduceAdd, Nat.reduceMul, Nat.reduceSub, Nat.add_zero, Nat.zero_add, Nat.mul_one, exists_eq_left, exists_eq_left', exists_const, existsSome, Nat.zero_le, Nat.le_refl, ia_slice, ia_arr, Addr.add_lit, Addr.add_zero', add_addS, Int.toNat_natCast, Int.toNat_zero, Int.toNat_one, Int.reduceToNat, T.elA_22, T.lay_22, T.szA_22, T.zr_22, Tryd.underlying22, ld_ptr, loadVC, loadN, T.szA_5, T.zr_5, Tryd.underlying5, bin_and, bin_neq, bin_neqb, bin_neqs, bin_neqa, bin_eql, bin_eqlb, bin_eqls, bin_eqla, pick_bool, hP, h8_24, h8_1, h8_2, h8_3, hf.1]
              rw [decide_eq_false hf.2]
              refine hK21 _ _ ?_
              try clear hK21 K21
              refine SX.live [1, 2, 3, 37] (fun T9 hT9 => ?_)
              simp only [forall_mem_cons', forall_mem_nil', upd_app, Φa, Φb, Φc, ev, Φd, Φe, Φf, Φg, Φh, Φi, Φj, Φk, reduceIte, reduceCtorEq, if_true, if_false, Φl, Φm, Φn, Φo, true_and, and_true, false_and, and_false, true_implies, forall_const, false_implies, ne_eq, not_true_eq_false, not_false_eq_true, decide_true, decide_false, Φp, and_self, true_or, or_true, dite_true, dite_false, Φq, Φr, decide_eq_true_eq, decide_eq_false_iff_not, Φs, Φt, Φu, Φv, beq_self_eq_true, Φw, Φx, Φy, Φz, ΦA, eq_self, hP, h8_24, h8_1, h8_2, h8_3] at hT9
              obtain ⟨h9_1, h9_2, h9_3, h9_37⟩ := hT9
              clear h8_24 h8_1 h8_2 h8_3 T8
              refine SX.cond_k fun X22 Y22 hX22 hY22 => ?_
              simp (maxSteps := 1000000) only [upd_app, Φa, Φb, Φc, ev, Φd, Φe, Φf, Φg, Φh, Φi, Φj, Φk, reduceIte, reduceCtorEq, if_true, if_false, Φl, Φm, Φn, Φo, true_and, and_true, false_and, and_false, true_implies, forall_const, false_implies, ne_eq, not_true_eq_false, not_false_eq_true, decide_true, decide_false, Φp, and_self, true_or, or_true, dite_true, dite_false, Φq, Φr, decide_eq_true_eq, decide_eq_false_iff_not, Φs, Φt, Φu, Φv, beq_self_eq_true, Φw, Φx, Φy, Φz, ΦA, eq_self, hP, h9_1, h9_2, h9_3, h9_37, condVC]
              refine hY22 ?_
              clear hX22 hY22 X22 Y22
              refine SX.skip ?_
              simp only [Φd, Φe, Φf, Φg, Φh, Φi, Φj, if_true, if_false, reduceIte]
              refine hK20 _ _ ?_
              try clear hK20 K20
              refine SX.region ?_
              simp (maxSteps := 1000000) only [upd_app, Φa, Φb, Φc, ev, Φd, Φe, Φf, Φg, Φh, Φi, Φj, Φk, reduceIte, reduceCtorEq, if_true, if_false, Φl, Φm, Φn, Φo, true_and, and_true, false_and, and_false, true_implies, forall_const, false_implies, ne_eq, not_true_eq_false, not_false_eq_true, decide_true, decide_false, Φp, and_self, true_or, or_true, dite_true, dite_false, Φq, Φr, decide_eq_true_eq, decide_eq_false_iff_not, Φs, Φt, Φu, Φv, beq_self_eq_true, Φw, Φx, Φy, Φz, ΦA, eq_self, VCplan, less_refl_t, less_drop_t, VCops, VQops, guardVC, putVC, VC, VQ, ΦB, ΦC, ΦD, ΦE, ΦF, ΦG, ΦH, List.getElem?_cons_zero, List.getElem?_cons_succ, List.getElem?_nil, List.getElem?_toArray, List.map_cons, List.map_nil, ΦI, ΦJ, ΦK, ΦL, ΦM, ΦN, ΦO, ΦP, ΦQ, ΦR, ΦS, ΦT, List.drop_zero, ΦU, ΦV, List.take_zero, ΦW, Nat.reduceLT, ΦX, Nat.reduceAdd, Nat.reduceMul, Nat.reduceSub, Nat.add_zero, Nat.zero_add, Nat.mul_one, exists_eq_left, exists_eq_left', exists_const, existsSome, Nat.zero_le, Nat.le_refl, bin_add, bin_adds, hP, h9_1, h9_2, h9_3, h9_37]
              refine hK15 (k + 1) _ (some (b, .cells (ints .u8 (digit n)).toArray 22 (0, 0)) :: L) _ (by first | exact Less.refl _ | exact Less.drop _ _ | exact Less.drops (Less.drop _ _) | exact Less.drops (Less.drops (Less.drop _ _)) | exact Less.drops (Less.drops (Less.drops (Less.drop _ _))) | exact Less.drops (Less.drops (Less.drops (Less.drops (Less.drop _ _))))) ?_ ?_
              · try dsimp only
                refine ⟨?_, ?_, ?_, ?_, ?_⟩
                · simp (maxSteps := 1000000) only [upd_app, Φa, Φb, Φc, ev, Φd, Φe, Φf, Φg, Φh, Φi, Φj, Φk, reduceIte, reduceCtorEq, if_true, if_false, Φl, Φm, Φn, Φo, true_and, and_true, false_and, and_false, true_implies, forall_const, false_implies, ne_eq, not_true_eq_false, not_false_eq_true, decide_true, decide_false, Φp, and_self, true_or, or_true, dite_true, dite_false, Φq, Φr, decide_eq_true_eq, decide_eq_false_iff_not, Φs, Φt, Φu, Φv, beq_self_eq_true, Φw, Φx, Φy, Φz, ΦA, eq_self, hP, h9_1, h9_2, h9_3, h9_37]
                  rw [inc64 (by omega)]
                · simp (maxSteps := 1000000) only [upd_app, Φa, Φb, Φc, ev, Φd, Φe, Φf, Φg, Φh, Φi, Φj, Φk, reduceIte, reduceCtorEq, if_true, if_false, Φl, Φm, Φn, Φo, true_and, and_true, false_and, and_false, true_implies, forall_const, false_implies, ne_eq, not_true_eq_false, not_false_eq_true, decide_true, decide_false, Φp, and_self, true_or, or_true, dite_true, dite_false, Φq, Φr, decide_eq_true_eq, decide_eq_false_iff_not, Φs, Φt, Φu, Φv, beq_self_eq_true, Φw, Φx, Φy, Φz, ΦA, eq_self, hP, h9_1, h9_2, h9_3, h9_37]
                · simp (maxSteps := 1000000) only [upd_app, Φa, Φb, Φc, ev, Φd, Φe, Φf, Φg, Φh, Φi, Φj, Φk, reduceIte, reduceCtorEq, if_true, if_false, Φl, Φm, Φn, Φo, true_and, and_true, false_and, and_false, true_implies, forall_const, false_implies, ne_eq, not_true_eq_false, not_false_eq_true, decide_true, decide_false, Φp, and_self, true_or, or_true, dite_true, dite_false, Φq, Φr, decide_eq_true_eq, decide_eq_false_iff_not, Φs, Φt, Φu, Φv, beq_self_eq_true, Φw, Φx, Φy, Φz, ΦA, eq_self, hP, h9_1, h9_2, h9_3, h9_37]
                · rfl
                · omega
              · (try dsimp only); omega
            · clear hX19 hY19 X19 Y19
              refine SX.exit ?_
              simp only [Φd, Φe, Φf, Φg, Φh, Φi, Φj, if_true, if_false, reduceIte]
              refine hK13 _ _ ?_
              try clear hK13 K13
              refine SX.seq_k fun K23 hK23 => ?_
              refine SX.region ?_
              simp (maxSteps := 1000000) only [upd_app, Φa, Φb, Φc, ev, Φd, Φe, Φf, Φg, Φh, Φi, Φj, Φk, reduceIte, reduceCtorEq, if_true, if_false, Φl, Φm, Φn, Φo, true_and, and_true, false_and, and_false, true_implies, forall_const, false_implies, ne_eq, not_true_eq_false, not_false_eq_true, decide_true, decide_false, Φp, and_self, true_or, or_true, dite_true, dite_false, Φq, Φr, decide_eq_true_eq, decide_eq_false_iff_not, Φs, Φt, Φu, Φv, beq_self_eq_true, Φw, Φx, Φy, Φz, ΦA, eq_self, VCplan, less_refl_t, less_drop_t, VCops, VQops, guardVC, putVC, VC, VQ, ΦB, ΦC, ΦD, ΦE, ΦF, ΦG, ΦH, List.getElem?_cons_zero, List.getElem?_cons_succ, List.getElem?_nil, List.getElem?_toArray, List.map_cons, List.map_nil, ΦI, ΦJ, ΦK, ΦL, ΦM, ΦN, ΦO, ΦP, ΦQ, ΦR, ΦS, ΦT, List.drop_zero, ΦU, ΦV, List.take_zero, ΦW, Nat.reduceLT, ΦX, Nat.reduceAdd, Nat.reduceMul, Nat.reduceSub, Nat.add_zero, Nat.zero_add, Nat.mul_one, exists_eq_left, exists_eq_left', exists_const, existsSome, Nat.zero_le, Nat.le_refl, hP, h8_24, h8_1, h8_2, h8_3]
              refine hK23 _ _ ?_
              try clear hK23 K23
              refine SX.block ?_
              refine SX.live [1, 2, 4] (fun T10 hT10 => ?_)
              simp only [forall_mem_cons', forall_mem_nil', upd_app, Φa, Φb, Φc, ev, Φd, Φe, Φf, Φg, Φh, Φi, Φj, Φk, reduceIte, reduceCtorEq, if_true, if_false, Φl, Φm, Φn, Φo, true_and, and_true, false_and, and_false, true_implies, forall_const, false_implies, ne_eq, not_true_eq_false, not_false_eq_true, decide_true, decide_false, Φp, and_self, true_or, or_true, dite_true, dite_false, Φq, Φr, decide_eq_true_eq, decide_eq_false_iff_not, Φs, Φt, Φu, Φv, beq_self_eq_true, Φw, Φx, Φy, Φz, ΦA, eq_self, hP, h8_24, h8_1, h8_2, h8_3] at hT10
              obtain ⟨h10_1, h10_2, h10_4⟩ := hT10
              clear h8_24 h8_1 h8_2 h8_3 T8
              refine SX.loop_k (fun (ss : (Nat)) T L' => (fun (m : Nat) => T 4 = .int .i64 (m : Int) ∧ T 1 = T10 1 ∧ T 2 = T10 2 ∧ L' = some (b, .cells (ints .u8 (digit n)).toArray 22 (0, 0)) :: L ∧ (m ≤ n)) (ss)) (fun (ss : (Nat)) => (fun (m : Nat) => n - m) (ss)) 0 ?_ ?_
              · try dsimp only
                refine ⟨?_, ?_, ?_, ?_, ?_⟩
                · first | exact h10_4 | (rw [h10_4]; rfl) | (rw [h10_4]; simp; done)
                · rfl
                · rfl
                · rfl
                · exact Nat.zero_le _
              · intro m T11 L11 hI K24 hK24
                dsimp only at hI hK24
                simp only [h10_1, h10_2] at hI hK24
                obtain ⟨h11_4, h11_1, h11_2, hL11, hm⟩ := hI
                replace hL11 := hL11.symm
                subst hL11
                clear h10_1 h10_2 h10_4 T10
                refine SX.seq_k fun K25 hK25 => ?_
                refine SX.seq_k fun K26 hK26 => ?_
                refine SX.region_x ?_
                refine RX.live [1, 2, 4] (fun T12 hT12 => ?_)
                simp only [forall_mem_cons', forall_mem_nil', upd_app, Φa, Φb, Φc, ev, Φd, Φe, Φf, Φg, Φh, Φi, Φj, Φk, reduceIte, reduceCtorEq, if_true, if_false, Φl, Φm, Φn, Φo, true_and, and_true, false_and, and_false, true_implies, forall_const, false_implies, ne_eq, not_true_eq_false, not_false_eq_true, decide_true, decide_false, Φp, and_self, true_or, or_true, dite_true, dite_false, Φq, Φr, decide_eq_true_eq, decide_eq_false_iff_not, Φs, Φt, Φu, Φv, beq_self_eq_true, Φw, Φx, Φy, Φz, ΦA, eq_self, hP, h11_4, h11_1, h11_2] at hT12
                obtain ⟨h12_1, h12_2, h12_4⟩ := hT12
                clear h11_4 h11_1 h11_2 T11
                refine RX.join 7 (fun (ss : Unit) T L' => T 44 = .bool (decide (m < n ∧ n < 16)) ∧ T 1 = T12 1 ∧ T 2 = T12 2 ∧ T 4 = T12 4 ∧ L' = some (b, .cells (ints .u8 (digit n)).toArray 22 (0, 0)) :: L ∧ (True)) (fun K27 hK27 => ?_) ?_
                · simp only [h12_1, h12_2, h12_4] at hK27
                  simp (maxSteps := 1000000) only [upd_app, Φa, Φb, Φc, ev, Φd, Φe, Φf, Φg, Φh, Φi, Φj, Φk, reduceIte, reduceCtorEq, if_true, if_false, Φl, Φm, Φn, Φo, true_and, and_true, false_and, and_false, true_implies, forall_const, false_implies, ne_eq, not_true_eq_false, not_false_eq_true, decide_true, decide_false, Φp, and_self, true_or, or_true, dite_true, dite_false, Φq, Φr, decide_eq_true_eq, decide_eq_false_iff_not, Φs, Φt, Φu, Φv, beq_self_eq_true, Φw, Φx, Φy, Φz, ΦA, eq_self, VCplan, less_refl_t, less_drop_t, VCops, VQops, guardVC, putVC, VC, VQ, ΦB, ΦC, ΦD, ΦE, ΦF, ΦG, ΦH, List.getElem?_cons_zero, List.getElem?_cons_succ, List.getElem?_nil, List.getElem?_toArray, List.map_cons, List.map_nil, ΦI, ΦJ, ΦK, ΦL, ΦM, ΦN, ΦO, ΦP, ΦQ, ΦR, ΦS, ΦT, List.drop_zero, ΦU, ΦV, List.take_zero, ΦW, Nat.reduceLT, ΦX, Nat.reduceAdd, Nat.reduceMul, Nat.reduceSub, Nat.add_zero, Nat.zero_add, Nat.mul_one, exists_eq_left, exists_eq_left', exists_const, existsSome, Nat.zero_le, Nat.le_refl, bin_lss, pick_bool, hP, h12_1, h12_2, h12_4]
                  refine iteI (fun hg => ?_) (fun hg => ?_)
                  · skip
                    refine hK27 () _ (some (b, .cells (ints .u8 (digit n)).toArray 22 (0, 0)) :: L) _ (by first | exact Less.refl _ | exact Less.drop _ _ | exact Less.drops (Less.drop _ _) | exact Less.drops (Less.drops (Less.drop _ _)) | exact Less.drops (Less.drops (Less.drops (Less.drop _ _))) | exact Less.drops (Less.drops (Less.drops (Less.drops (Less.drop _ _))))) ?_
                    try dsimp only
                    refine ⟨?_, ?_, ?_, ?_, ?_, ?_⟩
                    · simp (maxSteps := 1000000) only [upd_app, Φa, Φb, Φc, ev, Φd, Φe, Φf, Φg, Φh, Φi, Φj, Φk, reduceIte, reduceCtorEq, if_true, if_false, Φl, Φm, Φn, Φo, true_and, and_true, false_and, and_false, true_implies, forall_const, false_implies, ne_eq, not_true_eq_false, not_false_eq_true, decide_true, decide_false, Φp, and_self, true_or, or_true, dite_true, dite_false, Φq, Φr, decide_eq_true_eq, decide_eq_false_iff_not, Φs, Φt, Φu, Φv, beq_self_eq_true, Φw, Φx, Φy, Φz, ΦA, eq_self, hP, h12_1, h12_2, h12_4]
                      first | exact congrArg _ (decide_eq_decide.2 (by omega)) | exact congrArg _ (decide_eq_true (by omega)).symm | exact congrArg _ (decide_eq_false (by omega)).symm
                    · simp (maxSteps := 1000000) only [upd_app, Φa, Φb, Φc, ev, Φd, Φe, Φf, Φg, Φh, Φi, Φj, Φk, reduceIte, reduceCtorEq, if_true, if_false, Φl, Φm, Φn, Φo, true_and, and_true, false_and, and_false, true_implies, forall_const, false_implies, ne_eq, not_true_eq_false, not_false_eq_true, decide_true, decide_false, Φp, and_self, true_or, or_true, dite_true, dite_false, Φq, Φr, decide_eq_true_eq, decide_eq_false_iff_not, Φs, Φt, Φu, Φv, beq_self_eq_true, Φw, Φx, Φy, Φz, ΦA, eq_self, hP, h12_1, h12_2, h12_4]
                    · simp (maxSteps := 1000000) only [upd_app, Φa, Φb, Φc, ev, Φd, Φe, Φf, Φg, Φh, Φi, Φj, Φk, reduceIte, reduceCtorEq, if_true, if_false, Φl, Φm, Φn, Φo, true_and, and_true, false_and, and_false, true_implies, forall_const, false_implies, ne_eq, not_true_eq_false, not_false_eq_true, decide_true, decide_false, Φp, and_self, true_or, or_true, dite_true, dite_false, Φq, Φr, decide_eq_true_eq, decide_eq_false_iff_not, Φs, Φt, Φu, Φv, beq_self_eq_true, Φw, Φx, Φy, Φz, ΦA, eq_self, hP, h12_1, h12_2, h12_4]
                    · simp (maxSteps := 1000000) only [upd_app, Φa, Φb, Φc, ev, Φd, Φe, Φf, Φg, Φh, Φi, Φj, Φk, reduceIte, reduceCtorEq, if_true, if_false, Φl, Φm, Φn, Φo, true_and, and_true, false_and, and_false, true_implies, forall_const, false_implies, ne_eq, not_true_eq_false, not_false_eq_true, decide_true, decide_false, Φp, and_self, true_or, or_true, dite_true, dite_false, Φq, Φr, decide_eq_true_eq, decide_eq_false_iff_not, Φs, Φt, Φu, Φv, beq_self_eq_true, Φw, Φx, Φy, Φz, ΦA, eq_self, hP, h12_1, h12_2, h12_4]
                    · rfl
                    · trivial
                  · skip
                    refine hK27 () _ (some (b, .cells (ints .u8 (digit n)).toArray 22 (0, 0)) :: L) _ (by first | exact Less.refl _ | exact Less.drop _ _ | exact Less.drops (Less.drop _ _) | exact Less.drops (Less.drops (Less.drop _ _)) | exact Less.drops (Less.drops (Less.drops (Less.drop _ _))) | exact Less.drops (Less.drops (Less.drops (Less.drops (Less.drop _ _))))) ?_
                    try dsimp only
                    refine ⟨?_, ?_, ?_, ?_, ?_, ?_⟩
                    · simp (maxSteps := 1000000) only [upd_app, Φa, Φb, Φc, ev, Φd, Φe, Φf, Φg, Φh, Φi, Φj, Φk, reduceIte, reduceCtorEq, if_true, if_false, Φl, Φm, Φn, Φo, true_and, and_true, false_and, and_false, true_implies, forall_const, false_implies, ne_eq, not_true_eq_false, not_false_eq_true, decide_true, decide_false, Φp, and_self, true_or, or_true, dite_true, dite_false, Φq, Φr, decide_eq_true_eq, decide_eq_false_iff_not, Φs, Φt, Φu, Φv, beq_self_eq_true, Φw, Φx, Φy, Φz, ΦA, eq_self, hP, h12_1, h12_2, h12_4]
                      first | exact congrArg _ (decide_eq_decide.2 (by omega)) | exact congrArg _ (decide_eq_true (by omega)).symm | exact congrArg _ (decide_eq_false (by omega)).symm
                    · simp (maxSteps := 1000000) only [upd_app, Φa, Φb, Φc, ev, Φd, Φe, Φf, Φg, Φh, Φi, Φj, Φk, reduceIte, reduceCtorEq, if_true, if_false, Φl, Φm, Φn, Φo, true_and, and_true, false_and, and_false, true_implies, forall_const, false_implies, ne_eq, not_true_eq_false, not_false_eq_true, decide_true, decide_false, Φp, and_self, true_or, or_true, dite_true, dite_false, Φq, Φr, decide_eq_true_eq, decide_eq_false_iff_not, Φs, Φt, Φu, Φv, beq_self_eq_true, Φw, Φx, Φy, Φz, ΦA, eq_self, hP, h12_1, h12_2, h12_4]
                    · simp (maxSteps := 1000000) only [upd_app, Φa, Φb, Φc, ev, Φd, Φe, Φf, Φg, Φh, Φi, Φj, Φk, reduceIte, reduceCtorEq, if_true, if_false, Φl, Φm, Φn, Φo, true_and, and_true, false_and, and_false, true_implies, forall_const, false_implies, ne_eq, not_true_eq_false, not_false_eq_true, decide_true, decide_false, Φp, and_self, true_or, or_true, dite_true, dite_false, Φq, Φr, decide_eq_true_eq, decide_eq_false_iff_not, Φs, Φt, Φu, Φv, beq_self_eq_true, Φw, Φx, Φy, Φz, ΦA, eq_self, hP, h12_1, h12_2, h12_4]
                    · simp (maxSteps := 1000000) only [upd_app, Φa, Φb, Φc, ev, Φd, Φe, Φf, Φg, Φh, Φi, Φj, Φk, reduceIte, reduceCtorEq, if_true, if_false, Φl, Φm, Φn, Φo, true_and, and_true, false_and, and_false, true_implies, forall_const, false_implies, ne_eq, not_true_eq_false, not_false_eq_true, decide_true, decide_false, Φp, and_self, true_or, or_true, dite_true, dite_false, Φq, Φr, decide_eq_true_eq, decide_eq_false_iff_not, Φs, Φt, Φu, Φv, beq_self_eq_true, Φw, Φx, Φy, Φz, ΦA, eq_self, hP, h12_1, h12_2, h12_4]
                    · rfl
                    · trivial
                · intro ss T13 L13 hI
                  simp only [h12_1, h12_2, h12_4] at hI 
                  obtain ⟨h13_44, h13_1, h13_2, h13_4, hL13, hinv⟩ := hI
                  replace hL13 := hL13.symm
                  subst hL13
                  clear h12_1 h12_2 h12_4 T12
                  refine RX.done ?_
                  simp (maxSteps := 1000000) only [upd_app, Φa, Φb, Φc, ev, Φd, Φe, Φf, Φg, Φh, Φi, Φj, Φk, reduceIte, reduceCtorEq, if_true, if_false, Φl, Φm, Φn, Φo, true_and, and_true, false_and, and_false, true_implies, forall_const, false_implies, ne_eq, not_true_eq_false, not_false_eq_true, decide_true, decide_false, Φp, and_self, true_or, or_true, dite_true, dite_false, Φq, Φr, decide_eq_true_eq, decide_eq_false_iff_not, Φs, Φt, Φu, Φv, beq_self_eq_true, Φw, Φx, Φy, Φz, ΦA, eq_self, VCplan, less_refl_t, less_drop_t, VCops, VQops, guardVC, putVC, VC, VQ, ΦB, ΦC, ΦD, ΦE, ΦF, ΦG, ΦH, List.getElem?_cons_zero, List.getElem?_cons_succ, List.getElem?_nil, List.getElem?_toArray, List.map_cons, List.map_nil, ΦI, ΦJ, ΦK, ΦL, ΦM, ΦN, ΦO, ΦP, ΦQ, ΦR, ΦS, ΦT, List.drop_zero, ΦU, ΦV, List.take_zero, ΦW, Nat.reduceLT, ΦX, Nat.reduceAdd, Nat.reduceMul, Nat.reduceSub, Nat.add_zero, Nat.zero_add, Nat.mul_one, exists_eq_left, exists_eq_left', exists_const, existsSome, Nat.zero_le, Nat.le_refl, hP, h13_44, h13_1, h13_2, h13_4]
                  refine hK26 _ _ ?_
                  try clear hK26 K26
                  refine SX.cond_k fun X28 Y28 hX28 hY28 => ?_
                  simp (maxSteps := 1000000) only [upd_app, Φa, Φb, Φc, ev, Φd, Φe, Φf, Φg, Φh, Φi, Φj, Φk, reduceIte, reduceCtorEq, if_true, if_false, Φl, Φm, Φn, Φo, true_and, and_true, false_and, and_false, true_implies, forall_const, false_implies, ne_eq, not_true_eq_false, not_false_eq_true, decide_true, decide_false, Φp, and_self, true_or, or_true, dite_true, dite_false, Φq, Φr, decide_eq_true_eq, decide_eq_false_iff_not, Φs, Φt, Φu, Φv, beq_self_eq_true, Φw, Φx, Φy, Φz, ΦA, eq_self, hP, h13_44, h13_1, h13_2, h13_4, condVC]
                  refine ⟨fun hc44 => hX28 ?_, fun hc44 => hY28 ?_⟩
                  · clear hX28 hY28 X28 Y28
                    refine SX.skip ?_
                    simp only [Φd, Φe, Φf, Φg, Φh, Φi, Φj, if_true, if_false, reduceIte]
                    refine hK25 _ _ ?_
                    try clear hK25 K25
                    refine SX.seq_k fun K29 hK29 => ?_
                    refine SX.block ?_
                    refine SX.seq_k fun K30 hK30 => ?_
                    have hf := (facts hc44.2).2 m hc44.1
                    have hw : IntKind.u8.wrap (m : Int) = (m : Int) := wu8 (by omega)
                    refine SX.quiet (hP ▸ T.mixed) (by kernel_rfl) ?_
                    simp (maxSteps := 1000000) only [upd_app, Φa, Φb, Φc, ev, Φd, Φe, Φf, Φg, Φh, Φi, Φj, Φk, reduceIte, reduceCtorEq, if_true, if_false, Φl, Φm, Φn, Φo, true_and, and_true, false_and, and_false, true_implies, forall_const, false_implies, ne_eq, not_true_eq_false, not_false_eq_true, decide_true, decide_false, Φp, and_self, true_or, or_true, dite_true, dite_false, Φq, Φr, decide_eq_true_eq, decide_eq_false_iff_not, Φs, Φt, Φu, Φv, beq_self_eq_true, Φw, Φx, Φy, Φz, ΦA, eq_self, VCplan, less_refl_t, less_drop_t, VCops, VQops, guardVC, putVC, VC, VQ, ΦB, ΦC, ΦD, ΦE, ΦF, ΦG, ΦH, List.getElem?_cons_zero, List.getElem?_cons_succ, List.getElem?_nil, List.getElem?_toArray, List.map_cons, List.map_nil, ΦI, ΦJ, ΦK, ΦL, ΦM, ΦN, ΦO, ΦP, ΦQ, ΦR, ΦS, ΦT, List.drop_zero, ΦU, ΦV, List.take_zero, ΦW, Nat.reduceLT, ΦX, Nat.reduceAdd, Nat.reduceMul, Nat.reduceSub, Nat.add_zero, Nat.zero_add, Nat.mul_one, exists_eq_left, exists_eq_left', exists_const, existsSome, Nat.zero_le, Nat.le_refl, ld_ptr, loadVC, loadN, Addr.add_lit, Addr.add_zero', add_addS, Int.toNat_natCast, Int.toNat_zero, Int.toNat_one, Int.reduceToNat, T.elA_22, T.lay_22, T.szA_22, T.zr_22, Tryd.underlying22, conv_int, conv_slice, conv_nil, cv_str, cv_int, cv_slice, T.szA_3, T.zr_3, Tryd.underlying3, T.szA_5, T.zr_5, Tryd.underlying5, qcall_f, call_f, len_slice, len_str, cap_slice, min_int, max_int, T.callable_5, bin_eql, bin_eqlb, bin_eqls, bin_eqla, hP, h13_44, h13_1, h13_2, h13_4, hw]
                    refine ⟨_, own5 0 (by omega), _, own5 1 (by omega), _, own5 2 (by omega), _, own5 3 (by omega), _, own5 4 (by omega), ?_⟩
                    try simp (maxSteps := 1000000) only [upd_app, Φa, Φb, Φc, ev, Φd, Φe, Φf, Φg, Φh, Φi, Φj, Φk, reduceIte, reduceCtorEq, if_true, if_false, Φl, Φm, Φn, Φo, true_and, and_true, false_and, and_false, true_implies, forall_const, false_implies, ne_eq, not_true_eq_false, not_false_eq_true, decide_true, decide_false, Φp, and_self, true_or, or_true, dite_true, dite_false, Φq, Φr, decide_eq_true_eq, decide_eq_false_iff_not, Φs, Φt, Φu, Φv, beq_self_eq_true, Φw, Φx, Φy, Φz, ΦA, eq_self, VCplan, less_refl_t, less_drop_t, VCops, VQops, guardVC, putVC, VC, VQ, ΦB, ΦC, ΦD, ΦE, ΦF, ΦG, ΦH, List.getElem?_cons_zero, List.getElem?_cons_succ, List.getElem?_nil, List.getElem?_toArray, List.map_cons, List.map_nil, ΦI, ΦJ, ΦK, ΦL, ΦM, ΦN, ΦO, ΦP, ΦQ, ΦR, ΦS, ΦT, List.drop_zero, ΦU, ΦV, List.take_zero, ΦW, Nat.reduceLT, ΦX, Nat.reduceAdd, Nat.reduceMul, Nat.reduceSub, Nat.add_zero, Nat.zero_add, Nat.mul_one, exists_eq_left, exists_eq_left', exists_const, existsSome, Nat.zero_le, Nat.le_refl, ld_ptr, loadVC, loadN, Addr.add_lit, Addr.add_zero', add_addS, Int.toNat_natCast, Int.toNat_zero, Int.toNat_one, Int.reduceToNat, T.elA_22, T.lay_22, T.szA_22, T.zr_22, Tryd.underlying22, conv_int, conv_slice, conv_nil, cv_str, cv_int, cv_slice, T.szA_3, T.zr_3, Tryd.underlying3, T.szA_5, T.zr_5, Tryd.underlying5, qcall_f, call_f, len_slice, len_str, cap_slice, min_int, max_int, T.callable_5, bin_eql, bin_eqlb, bin_eqls, bin_eqla, hP, h13_44, h13_1, h13_2, h13_4, hw]
                    refine ⟨_, Digit_spec hP hG (by omega), ?_⟩
                    try simp (maxSteps := 1000000) only [upd_app, Φa, Φb, Φc, ev, Φd, Φe, Φf, Φg, Φh, Φi, Φj, Φk, reduceIte, reduceCtorEq, if_true, if_false, Φl, Φm, Φn, Φo, true_and, and_true, false_and, and_false, true_implies, forall_const, false_implies, ne_eq, not_true_eq_false, not_false_eq_true, decide_true, decide_false, Φp, and_self, true_or, or_true, dite_true, dite_false, Φq, Φr, decide_eq_true_eq, decide_eq_false_iff_not, Φs, Φt, Φu, Φv, beq_self_eq_true, Φw, Φx, Φy, Φz, ΦA, eq_self, VCplan, less_refl_t, less_drop_t, VCops, VQops, guardVC, putVC, VC, VQ, ΦB, ΦC, ΦD, ΦE, ΦF, ΦG, ΦH, List.getElem?_cons_zero, List.getElem?_cons_succ, List.getElem?_nil, List.getElem?_toArray, List.map_cons, List.map_nil, ΦI, ΦJ, ΦK, ΦL, ΦM, ΦN, ΦO, ΦP, ΦQ, ΦR, ΦS, ΦT, List.drop_zero, ΦU, ΦV, List.take_zero, ΦW, Nat.reduceLT, ΦX, Nat.reduceAdd, Nat.reduceMul, Nat.reduceSub, Nat.add_zero, Nat.zero_add, Nat.mul_one, exists_eq_left, exists_eq_left', exists_const, existsSome, Nat.zero_le, Nat.le_refl, ld_ptr, loadVC, loadN, Addr.add_lit, Addr.add_zero', add_addS, Int.toNat_natCast, Int.toNat_zero, Int.toNat_one, Int.reduceToNat, T.elA_22, T.lay_22, T.szA_22, T.zr_22, Tryd.underlying22, conv_int, conv_slice, conv_nil, cv_str, cv_int, cv_slice, T.szA_3, T.zr_3, Tryd.underlying3, T.szA_5, T.zr_5, Tryd.underlying5, qcall_f, call_f, len_slice, len_str, cap_slice, min_int, max_int, T.callable_5, bin_eql, bin_eqlb, bin_eqls, bin_eqla, hP, h13_44, h13_1, h13_2, h13_4, hw]
                    rw [arr5]
                    refine digit_eq rfl (digit_len n) (digit_len m) (digit_wf n) (digit_wf m) ?_
                    rw [decide_eq_false hf]
                    refine hK30 _ _ ?_
                    try clear hK30 K30
                    refine SX.cond_k fun X31 Y31 hX31 hY31 => ?_
                    simp (maxSteps := 1000000) only [upd_app, Φa, Φb, Φc, ev, Φd, Φe, Φf, Φg, Φh, Φi, Φj, Φk, reduceIte, reduceCtorEq, if_true, if_false, Φl, Φm, Φn, Φo, true_and, and_true, false_and, and_false, true_implies, forall_const, false_implies, ne_eq, not_true_eq_false, not_false_eq_true, decide_true, decide_false, Φp, and_self, true_or, or_true, dite_true, dite_false, Φq, Φr, decide_eq_true_eq, decide_eq_false_iff_not, Φs, Φt, Φu, Φv, beq_self_eq_true, Φw, Φx, Φy, Φz, ΦA, eq_self, hP, h13_44, h13_1, h13_2, h13_4, condVC]
                    refine hY31 ?_
                    clear hX31 hY31 X31 Y31
                    refine SX.skip ?_
                    simp only [Φd, Φe, Φf, Φg, Φh, Φi, Φj, if_true, if_false, reduceIte]
                    refine hK29 _ _ ?_
                    try clear hK29 K29
                    refine SX.region ?_
                    simp (maxSteps := 1000000) only [upd_app, Φa, Φb, Φc, ev, Φd, Φe, Φf, Φg, Φh, Φi, Φj, Φk, reduceIte, reduceCtorEq, if_true, if_false, Φl, Φm, Φn, Φo, true_and, and_true, false_and, and_false, true_implies, forall_const, false_implies, ne_eq, not_true_eq_false, not_false_eq_true, decide_true, decide_false, Φp, and_self, true_or, or_true, dite_true, dite_false, Φq, Φr, decide_eq_true_eq, decide_eq_false_iff_not, Φs, Φt, Φu, Φv, beq_self_eq_true, Φw, Φx, Φy, Φz, ΦA, eq_self, VCplan, less_refl_t, less_drop_t, VCops, VQops, guardVC, putVC, VC, VQ, ΦB, ΦC, ΦD, ΦE, ΦF, ΦG, ΦH, List.getElem?_cons_zero, List.getElem?_cons_succ, List.getElem?_nil, List.getElem?_toArray, List.map_cons, List.map_nil, ΦI, ΦJ, ΦK, ΦL, ΦM, ΦN, ΦO, ΦP, ΦQ, ΦR, ΦS, ΦT, List.drop_zero, ΦU, ΦV, List.take_zero, ΦW, Nat.reduceLT, ΦX, Nat.reduceAdd, Nat.reduceMul, Nat.reduceSub, Nat.add_zero, Nat.zero_add, Nat.mul_one, exists_eq_left, exists_eq_left', exists_const, existsSome, Nat.zero_le, Nat.le_refl, bin_add, bin_adds, hP, h13_44, h13_1, h13_2, h13_4]
                    refine hK24 (m + 1) _ (some (b, .cells (ints .u8 (digit n)).toArray 22 (0, 0)) :: L) _ (by first | exact Less.refl _ | exact Less.drop _ _ | exact Less.drops (Less.drop _ _) | exact Less.drops (Less.drops (Less.drop _ _)) | exact Less.drops (Less.drops (Less.drops (Less.drop _ _))) | exact Less.drops (Less.drops (Less.drops (Less.drops (Less.drop _ _))))) ?_ ?_
                    · try dsimp only
                      refine ⟨?_, ?_, ?_, ?_, ?_⟩
                      · simp (maxSteps := 1000000) only [upd_app, Φa, Φb, Φc, ev, Φd, Φe, Φf, Φg, Φh, Φi, Φj, Φk, reduceIte, reduceCtorEq, if_true, if_false, Φl, Φm, Φn, Φo, true_and, and_true, false_and, and_false, true_implies, forall_const, false_implies, ne_eq, not_true_eq_false, not_false_eq_true, decide_true, decide_false, Φp, and_self, true_or, or_true, dite_true, dite_false, Φq, Φr, decide_eq_true_eq, decide_eq_false_iff_not, Φs, Φt, Φu, Φv, beq_self_eq_true, Φw, Φx, Φy, Φz, ΦA, eq_self, hP, h13_44, h13_1, h13_2, h13_4]
                        rw [inc64 (by omega)]
                      · simp (maxSteps := 1000000) only [upd_app, Φa, Φb, Φc, ev, Φd, Φe, Φf, Φg, Φh, Φi, Φj, Φk, reduceIte, reduceCtorEq, if_true, if_false, Φl, Φm, Φn, Φo, true_and, and_true, false_and, and_false, true_implies, forall_const, false_implies, ne_eq, not_true_eq_false, not_false_eq_true, decide_true, decide_false, Φp, and_self, true_or, or_true, dite_true, dite_false, Φq, Φr, decide_eq_true_eq, decide_eq_false_iff_not, Φs, Φt, Φu, Φv, beq_self_eq_true, Φw, Φx, Φy, Φz, ΦA, eq_self, hP, h13_44, h13_1, h13_2, h13_4]
                      · simp (maxSteps := 1000000) only [upd_app, Φa, Φb, Φc, ev, Φd, Φe, Φf, Φg, Φh, Φi, Φj, Φk, reduceIte, reduceCtorEq, if_true, if_false, Φl, Φm, Φn, Φo, true_and, and_true, false_and, and_false, true_implies, forall_const, false_implies, ne_eq, not_true_eq_false, not_false_eq_true, decide_true, decide_false, Φp, and_self, true_or, or_true, dite_true, dite_false, Φq, Φr, decide_eq_true_eq, decide_eq_false_iff_not, Φs, Φt, Φu, Φv, beq_self_eq_true, Φw, Φx, Φy, Φz, ΦA, eq_self, hP, h13_44, h13_1, h13_2, h13_4]
                      · rfl
                      · omega
                    · (try dsimp only); omega
                  · clear hX28 hY28 X28 Y28
                    refine SX.exit ?_
                    simp only [Φd, Φe, Φf, Φg, Φh, Φi, Φj, if_true, if_false, reduceIte]
                    refine hK8 _ _ ?_
                    try clear hK8 K8
                    refine SX.region ?_
                    simp (maxSteps := 1000000) only [upd_app, Φa, Φb, Φc, ev, Φd, Φe, Φf, Φg, Φh, Φi, Φj, Φk, reduceIte, reduceCtorEq, if_true, if_false, Φl, Φm, Φn, Φo, true_and, and_true, false_and, and_false, true_implies, forall_const, false_implies, ne_eq, not_true_eq_false, not_false_eq_true, decide_true, decide_false, Φp, and_self, true_or, or_true, dite_true, dite_false, Φq, Φr, decide_eq_true_eq, decide_eq_false_iff_not, Φs, Φt, Φu, Φv, beq_self_eq_true, Φw, Φx, Φy, Φz, ΦA, eq_self, VCplan, less_refl_t, less_drop_t, VCops, VQops, guardVC, putVC, VC, VQ, ΦB, ΦC, ΦD, ΦE, ΦF, ΦG, ΦH, List.getElem?_cons_zero, List.getElem?_cons_succ, List.getElem?_nil, List.getElem?_toArray, List.map_cons, List.map_nil, ΦI, ΦJ, ΦK, ΦL, ΦM, ΦN, ΦO, ΦP, ΦQ, ΦR, ΦS, ΦT, List.drop_zero, ΦU, ΦV, List.take_zero, ΦW, Nat.reduceLT, ΦX, Nat.reduceAdd, Nat.reduceMul, Nat.reduceSub, Nat.add_zero, Nat.zero_add, Nat.mul_one, exists_eq_left, exists_eq_left', exists_const, existsSome, Nat.zero_le, Nat.le_refl, bin_add, bin_adds, hP, h13_44, h13_1, h13_2, h13_4]
                    refine hK4 (n + 1) _ (L) _ (by first | exact Less.refl _ | exact Less.drop _ _ | exact Less.drops (Less.drop _ _) | exact Less.drops (Less.drops (Less.drop _ _)) | exact Less.drops (Less.drops (Less.drops (Less.drop _ _))) | exact Less.drops (Less.drops (Less.drops (Less.drops (Less.drop _ _))))) ?_ ?_
                    · try dsimp only
                      refine ⟨?_, ?_, ?_⟩
                      · simp (maxSteps := 1000000) only [upd_app, Φa, Φb, Φc, ev, Φd, Φe, Φf, Φg, Φh, Φi, Φj, Φk, reduceIte, reduceCtorEq, if_true, if_false, Φl, Φm, Φn, Φo, true_and, and_true, false_and, and_false, true_implies, forall_const, false_implies, ne_eq, not_true_eq_false, not_false_eq_true, decide_true, decide_false, Φp, and_self, true_or, or_true, dite_true, dite_false, Φq, Φr, decide_eq_true_eq, decide_eq_false_iff_not, Φs, Φt, Φu, Φv, beq_self_eq_true, Φw, Φx, Φy, Φz, ΦA, eq_self, hP, h13_44, h13_1, h13_2, h13_4]
                        rw [inc64 (by omega)]
                      · rfl
                      · omega
                    · (try dsimp only); omega
    · clear hX7 hY7 X7 Y7
      refine SX.exit ?_
      simp only [Φd, Φe, Φf, Φg, Φh, Φi, Φj, if_true, if_false, reduceIte]
      refine hK2 _ _ ?_
      try clear hK2 K2
      refine SX.seq_k fun K32 hK32 => ?_
      refine SX.region ?_
      simp (maxSteps := 1000000) only [upd_app, Φa, Φb, Φc, ev, Φd, Φe, Φf, Φg, Φh, Φi, Φj, Φk, reduceIte, reduceCtorEq, if_true, if_false, Φl, Φm, Φn, Φo, true_and, and_true, false_and, and_false, true_implies, forall_const, false_implies, ne_eq, not_true_eq_false, not_false_eq_true, decide_true, decide_false, Φp, and_self, true_or, or_true, dite_true, dite_false, Φq, Φr, decide_eq_true_eq, decide_eq_false_iff_not, Φs, Φt, Φu, Φv, beq_self_eq_true, Φw, Φx, Φy, Φz, ΦA, eq_self, VCplan, less_refl_t, less_drop_t, VCops, VQops, guardVC, putVC, VC, VQ, ΦB, ΦC, ΦD, ΦE, ΦF, ΦG, ΦH, List.getElem?_cons_zero, List.getElem?_cons_succ, List.getElem?_nil, List.getElem?_toArray, List.map_cons, List.map_nil, ΦI, ΦJ, ΦK, ΦL, ΦM, ΦN, ΦO, ΦP, ΦQ, ΦR, ΦS, ΦT, List.drop_zero, ΦU, ΦV, List.take_zero, ΦW, Nat.reduceLT, ΦX, Nat.reduceAdd, Nat.reduceMul, Nat.reduceSub, Nat.add_zero, Nat.zero_add, Nat.mul_one, exists_eq_left, exists_eq_left', exists_const, existsSome, Nat.zero_le, Nat.le_refl, qcall_f, call_f, len_slice, len_str, cap_slice, min_int, max_int, T.szA_5, T.zr_5, Tryd.underlying5, T.callable_5, partVC, buildVC, placeL, fillL, setN, cells_int, cells_bool, cells_string, cells_pointer, cells_slice, cells_agg, oneB_nil, oneB_cons, one_int, one_bool, one_string, one_pointer, one_slice, one_map, one_func, one_nilFunc, one_nilIface, one_iface, cells_map, cells_func, cells_nilFunc, cells_nilIface, cells_iface, T.elA_22, T.lay_22, T.szA_22, T.zr_22, Tryd.underlying22, bin_eql, bin_eqlb, bin_eqls, bin_eqla, pick_bool, hP, h2_1]
      refine SCall.mono (Digit_spec (n := 0) hP hG (by omega)) ?_
      rintro v_ L_ ⟨hv_, hL_⟩
      rw [hv_, hL_]
      clear hv_ hL_ v_ L_
      try simp (maxSteps := 1000000) only [upd_app, Φa, Φb, Φc, ev, Φd, Φe, Φf, Φg, Φh, Φi, Φj, Φk, reduceIte, reduceCtorEq, if_true, if_false, Φl, Φm, Φn, Φo, true_and, and_true, false_and, and_false, true_implies, forall_const, false_implies, ne_eq, not_true_eq_false, not_false_eq_true, decide_true, decide_false, Φp, and_self, true_or, or_true, dite_true, dite_false, Φq, Φr, decide_eq_true_eq, decide_eq_false_iff_not, Φs, Φt, Φu, Φv, beq_self_eq_true, Φw, Φx, Φy, Φz, ΦA, eq_self, VCplan, less_refl_t, less_drop_t, VCops, VQops, guardVC, putVC, VC, VQ, ΦB, ΦC, ΦD, ΦE, ΦF, ΦG, ΦH, List.getElem?_cons_zero, List.getElem?_cons_succ, List.getElem?_nil, List.getElem?_toArray, List.map_cons, List.map_nil, ΦI, ΦJ, ΦK, ΦL, ΦM, ΦN, ΦO, ΦP, ΦQ, ΦR, ΦS, ΦT, List.drop_zero, ΦU, ΦV, List.take_zero, ΦW, Nat.reduceLT, ΦX, Nat.reduceAdd, Nat.reduceMul, Nat.reduceSub, Nat.add_zero, Nat.zero_add, Nat.mul_one, exists_eq_left, exists_eq_left', exists_const, existsSome, Nat.zero_le, Nat.le_refl, qcall_f, call_f, len_slice, len_str, cap_slice, min_int, max_int, T.szA_5, T.zr_5, Tryd.underlying5, T.callable_5, partVC, buildVC, placeL, fillL, setN, cells_int, cells_bool, cells_string, cells_pointer, cells_slice, cells_agg, oneB_nil, oneB_cons, one_int, one_bool, one_string, one_pointer, one_slice, one_map, one_func, one_nilFunc, one_nilIface, one_iface, cells_map, cells_func, cells_nilFunc, cells_nilIface, cells_iface, T.elA_22, T.lay_22, T.szA_22, T.zr_22, Tryd.underlying22, bin_eql, bin_eqlb, bin_eqls, bin_eqla, pick_bool, hP, h2_1]
      refine digit_eq (xs := digit 0) (ys := [240, 144, 144, 144, 240]) rfl (digit_len 0) rfl (digit_wf 0) (digit_wf 0) ?_
      rw [decide_eq_true (show digit 0 = [240, 144, 144, 144, 240] from rfl)]
      try simp (maxSteps := 1000000) only [upd_app, Φa, Φb, Φc, ev, Φd, Φe, Φf, Φg, Φh, Φi, Φj, Φk, reduceIte, reduceCtorEq, if_true, if_false, Φl, Φm, Φn, Φo, true_and, and_true, false_and, and_false, true_implies, forall_const, false_implies, ne_eq, not_true_eq_false, not_false_eq_true, decide_true, decide_false, Φp, and_self, true_or, or_true, dite_true, dite_false, Φq, Φr, decide_eq_true_eq, decide_eq_false_iff_not, Φs, Φt, Φu, Φv, beq_self_eq_true, Φw, Φx, Φy, Φz, ΦA, eq_self, VCplan, less_refl_t, less_drop_t, VCops, VQops, guardVC, putVC, VC, VQ, ΦB, ΦC, ΦD, ΦE, ΦF, ΦG, ΦH, List.getElem?_cons_zero, List.getElem?_cons_succ, List.getElem?_nil, List.getElem?_toArray, List.map_cons, List.map_nil, ΦI, ΦJ, ΦK, ΦL, ΦM, ΦN, ΦO, ΦP, ΦQ, ΦR, ΦS, ΦT, List.drop_zero, ΦU, ΦV, List.take_zero, ΦW, Nat.reduceLT, ΦX, Nat.reduceAdd, Nat.reduceMul, Nat.reduceSub, Nat.add_zero, Nat.zero_add, Nat.mul_one, exists_eq_left, exists_eq_left', exists_const, existsSome, Nat.zero_le, Nat.le_refl, qcall_f, call_f, len_slice, len_str, cap_slice, min_int, max_int, T.szA_5, T.zr_5, Tryd.underlying5, T.callable_5, partVC, buildVC, placeL, fillL, setN, cells_int, cells_bool, cells_string, cells_pointer, cells_slice, cells_agg, oneB_nil, oneB_cons, one_int, one_bool, one_string, one_pointer, one_slice, one_map, one_func, one_nilFunc, one_nilIface, one_iface, cells_map, cells_func, cells_nilFunc, cells_nilIface, cells_iface, T.elA_22, T.lay_22, T.szA_22, T.zr_22, Tryd.underlying22, bin_eql, bin_eqlb, bin_eqls, bin_eqla, pick_bool, hP, h2_1]
      refine SCall.mono (Digit_spec (n := 15) hP hG (by omega)) ?_
      rintro v_ L_ ⟨hv_, hL_⟩
      rw [hv_, hL_]
      clear hv_ hL_ v_ L_
      try simp (maxSteps := 1000000) only [upd_app, Φa, Φb, Φc, ev, Φd, Φe, Φf, Φg, Φh, Φi, Φj, Φk, reduceIte, reduceCtorEq, if_true, if_false, Φl, Φm, Φn, Φo, true_and, and_true, false_and, and_false, true_implies, forall_const, false_implies, ne_eq, not_true_eq_false, not_false_eq_true, decide_true, decide_false, Φp, and_self, true_or, or_true, dite_true, dite_false, Φq, Φr, decide_eq_true_eq, decide_eq_false_iff_not, Φs, Φt, Φu, Φv, beq_self_eq_true, Φw, Φx, Φy, Φz, ΦA, eq_self, VCplan, less_refl_t, less_drop_t, VCops, VQops, guardVC, putVC, VC, VQ, ΦB, ΦC, ΦD, ΦE, ΦF, ΦG, ΦH, List.getElem?_cons_zero, List.getElem?_cons_succ, List.getElem?_nil, List.getElem?_toArray, List.map_cons, List.map_nil, ΦI, ΦJ, ΦK, ΦL, ΦM, ΦN, ΦO, ΦP, ΦQ, ΦR, ΦS, ΦT, List.drop_zero, ΦU, ΦV, List.take_zero, ΦW, Nat.reduceLT, ΦX, Nat.reduceAdd, Nat.reduceMul, Nat.reduceSub, Nat.add_zero, Nat.zero_add, Nat.mul_one, exists_eq_left, exists_eq_left', exists_const, existsSome, Nat.zero_le, Nat.le_refl, qcall_f, call_f, len_slice, len_str, cap_slice, min_int, max_int, T.szA_5, T.zr_5, Tryd.underlying5, T.callable_5, partVC, buildVC, placeL, fillL, setN, cells_int, cells_bool, cells_string, cells_pointer, cells_slice, cells_agg, oneB_nil, oneB_cons, one_int, one_bool, one_string, one_pointer, one_slice, one_map, one_func, one_nilFunc, one_nilIface, one_iface, cells_map, cells_func, cells_nilFunc, cells_nilIface, cells_iface, T.elA_22, T.lay_22, T.szA_22, T.zr_22, Tryd.underlying22, bin_eql, bin_eqlb, bin_eqls, bin_eqla, pick_bool, hP, h2_1]
      refine digit_eq (xs := digit 15) (ys := [240, 128, 240, 128, 128]) rfl (digit_len 15) rfl (digit_wf 15) (digit_wf 15) ?_
      rw [decide_eq_true (show digit 15 = [240, 128, 240, 128, 128] from rfl)]
      try simp (maxSteps := 1000000) only [upd_app, Φa, Φb, Φc, ev, Φd, Φe, Φf, Φg, Φh, Φi, Φj, Φk, reduceIte, reduceCtorEq, if_true, if_false, Φl, Φm, Φn, Φo, true_and, and_true, false_and, and_false, true_implies, forall_const, false_implies, ne_eq, not_true_eq_false, not_false_eq_true, decide_true, decide_false, Φp, and_self, true_or, or_true, dite_true, dite_false, Φq, Φr, decide_eq_true_eq, decide_eq_false_iff_not, Φs, Φt, Φu, Φv, beq_self_eq_true, Φw, Φx, Φy, Φz, ΦA, eq_self, VCplan, less_refl_t, less_drop_t, VCops, VQops, guardVC, putVC, VC, VQ, ΦB, ΦC, ΦD, ΦE, ΦF, ΦG, ΦH, List.getElem?_cons_zero, List.getElem?_cons_succ, List.getElem?_nil, List.getElem?_toArray, List.map_cons, List.map_nil, ΦI, ΦJ, ΦK, ΦL, ΦM, ΦN, ΦO, ΦP, ΦQ, ΦR, ΦS, ΦT, List.drop_zero, ΦU, ΦV, List.take_zero, ΦW, Nat.reduceLT, ΦX, Nat.reduceAdd, Nat.reduceMul, Nat.reduceSub, Nat.add_zero, Nat.zero_add, Nat.mul_one, exists_eq_left, exists_eq_left', exists_const, existsSome, Nat.zero_le, Nat.le_refl, qcall_f, call_f, len_slice, len_str, cap_slice, min_int, max_int, T.szA_5, T.zr_5, Tryd.underlying5, T.callable_5, partVC, buildVC, placeL, fillL, setN, cells_int, cells_bool, cells_string, cells_pointer, cells_slice, cells_agg, oneB_nil, oneB_cons, one_int, one_bool, one_string, one_pointer, one_slice, one_map, one_func, one_nilFunc, one_nilIface, one_iface, cells_map, cells_func, cells_nilFunc, cells_nilIface, cells_iface, T.elA_22, T.lay_22, T.szA_22, T.zr_22, Tryd.underlying22, bin_eql, bin_eqlb, bin_eqls, bin_eqla, pick_bool, hP, h2_1]
      refine hK32 _ _ ?_
      try clear hK32 K32
      refine SX.ret ?_
      simp only [Φd, Φe, Φf, Φg, Φh, Φi, Φj, if_true, if_false, reduceIte, retQ_ret]
      try simp only [res0, res1, res2, res3, upd_app, Φa, Φb, Φc, ev, Φd, Φe, Φf, Φg, Φh, Φi, Φj, Φk, reduceIte, reduceCtorEq, if_true, if_false, Φl, Φm, Φn, Φo, true_and, and_true, false_and, and_false, true_implies, forall_const, false_implies, ne_eq, not_true_eq_false, not_false_eq_true, decide_true, decide_false, Φp, and_self, true_or, or_true, dite_true, dite_false, Φq, Φr, decide_eq_true_eq, decide_eq_false_iff_not, Φs, Φt, Φu, Φv, beq_self_eq_true, Φw, Φx, Φy, Φz, ΦA, eq_self, hP, h2_1]
      exact ⟨_, L, (by first | exact Less.refl _ | exact Less.drop _ _ | exact Less.drops (Less.drop _ _) | exact Less.drops (Less.drops (Less.drop _ _)) | exact Less.drops (Less.drops (Less.drops (Less.drop _ _))) | exact Less.drops (Less.drops (Less.drops (Less.drops (Less.drop _ _))))), rfl, rfl, rfl⟩
end Go.Proofs.YtcakdalajafmoaaDoor
