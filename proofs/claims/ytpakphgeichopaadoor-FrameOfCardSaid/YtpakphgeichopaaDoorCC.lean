/- A part of a proof: contracts and plain facts that it stands on. -/
import Derived.Test.YtpakphgeichopaaDoorCB
import Derived.RangeFuncNested
import Derived.RangeFuncBound
import Derived.RangeFuncLeaves
import Derived.ProofKit
import Derived.SizedLaws
import Derived.ChangeBears2
import Derived.OpenShut
import Derived.Below
import Derived.ChangeSame
import Derived.Carry
import Derived.ChangeCalls
import Derived.LaidMore
import Derived.Stop.Joined
set_option linter.unusedVariables false
set_option linter.unusedSimpArgs false
namespace Go.Proofs.YtpakphgeichopaaDoor
open Go.RowKit Go.SX
open Bool renaming false_eq_true → Φa, true_eq_false → Φb, not_eq_false' → Φc, not_eq_true' → Φe, not_eq_false → Φg, not_eq_true → Φh, not_false → Φk, and_false → Φl, false_and → Φm, not_true → Φo, and_true → Φp, true_and → Φq, and_self → Φr
open Nat renaming reduceEqDiff → Φd, reduceBEq → Φn, reduceLeDiff → ΦS, reduceAdd → Ψb, reduceMul → Ψe, reduceSub → Ψf, add_zero → Ψg, zero_add → Ψh, reduceLT → Ψj, mul_one → Ψo, zero_le → Ψp, le_refl → Ψq
open Decidable renaming not_not → Φf
open Go.SX renaming andThen_normal → Φi, andThen_exit → Φs, inBlk_normal → Φt, andThen_ret → Φv, inBlk_exit → Φw, inBlk_ret → Φx, env0_zero → Φy, env0_succ → Φz, env0_nil → ΦL, upd_app → ΦY, less_refl_t → Ψm, less_drop_t → Ψn, existsSome → Ψs, guardVC → Ψv, add_addS → Ψw, VCplan → Ψx, cells_nilIface → Ψy, cells_pointer → Ψz, cells_nilFunc → ΨA, cells_string → ΨB, one_nilIface → ΨC, cells_slice → ΨD, one_pointer → ΨE, one_nilFunc → ΨF, cells_iface → ΨG, forall_mem_cons' → ΨH
open Int renaming natCast_inj → Φj, reduceEq → Φu, toNat_natCast → Ψc, reduceToNat → Ψk, toNat_zero → Ψr, toNat_one → Ψt
open List renaming toList_toArray → ΦA, append_toArray → ΦB, drop_succ_cons → ΦC, take_succ_cons → ΦD, set_cons_zero → ΦG, set_cons_succ → ΦH, flatMap_cons → ΦJ, size_toArray → ΦK, cons_append → ΦM, map_toArray → ΦP, flatMap_nil → ΦQ, length_cons → ΦR, nil_append → ΦT, append_nil → ΦW, length_nil → ΦX, drop_zero → ΦZ, take_zero → Ψa, map_cons → Ψd, map_nil → Ψi
open Option renaming isSome_some → ΦE, isSome_none → ΦF, bind_some → ΦN, bind_none → ΦO, map_some → ΦU, map_none → ΦV
open Option.some renaming injEq → ΦI
open Go.Addr renaming add_zero' → Ψl, add_lit → Ψu
def nx (x : Ras) : Ras := step x.1 x.2.1 x.2.2.1 x.2.2.2 0 0 true false 0
abbrev okR (x : Ras) : Bool := okB x.1 x.2.1 x.2.2.2
theorem okB_of {l c g : Int} (h : (0 ≤ l ∧ l < 262 ∧ 0 ≤ c ∧ c < 14 ∧ 0 ≤ g ∧ g ≤ 8 ∧ (g = 0 ∨ 80 ≤ l ∧ l ≤ 207 ∧ g ≤ c - 2))) : okB l c g = true := decide_eq_true h
theorem of_okB {l c g : Int} (h : okB l c g = true) : (0 ≤ l ∧ l < 262 ∧ 0 ≤ c ∧ c < 14 ∧ 0 ≤ g ∧ g ≤ 8 ∧ (g = 0 ∨ 80 ≤ l ∧ l ≤ 207 ∧ g ≤ c - 2)) := of_decide_eq_true h
def P (x : Ras) : Nat := 14 * x.1.toNat + x.2.1.toNat
set_option maxHeartbeats 1000000 in
set_option maxRecDepth 100000 in
theorem refShown_spec {Γ : Ctx} (hP : Γ.P = Tryd.prog) {L : Hp} {l : Int} :
    SCall Γ 49 #[(.int .i64 l)] L (fun v L' => v = .bool (decide (80 ≤ l ∧ l ≤ 207)) ∧ L' = L) := by
  refine SCall.enter (n := 9) (res1 2) (hP ▸ Tryd.func49) rfl rfl (by simp) (res1_ok rfl) ?_
  refine SX.seq_k fun K1 hK1 => ?_
  refine SX.region ?_
  simp (maxSteps := 1000000) only [ΦY,Φy,Φz,ΦL,ev,Φi,Φv,Φs,Φt,Φx,Φw,Φd,Φn,reduceIte,reduceCtorEq,if_true,if_false,Φo,Φk,Φa,Φb,true_and,and_true,false_and,and_false,true_implies,forall_const,false_implies,ne_eq,not_true_eq_false,not_false_eq_true,decide_true,decide_false,Φu,and_self,true_or,or_true,dite_true,dite_false,Φe,Φc,decide_eq_true_eq,decide_eq_false_iff_not,Φf,Φh,Φg,Φj,beq_self_eq_true,Φp,Φq,Φr,Φl,Φm,eq_self,Ψx,Ψm,Ψn,VCops,VQops,Ψv,putVC,VC,VQ,ΦU,ΦV,ΦN,ΦO,ΦE,ΦF,ΦI,List.getElem?_cons_zero,List.getElem?_cons_succ,List.getElem?_nil,List.getElem?_toArray,Ψd,Ψi,ΦP,ΦA,ΦB,ΦT,ΦM,ΦW,ΦJ,ΦQ,ΦR,ΦX,ΦG,ΦH,ΦZ,ΦC,ΦD,Ψa,ΦK,Ψj,ΦS,Ψb,Ψe,Ψf,Ψg,Ψh,Ψo,exists_eq_left,exists_eq_left',exists_const,Ψs,Ψp,Ψq,hP]
  refine hK1 _ _ ?_
  try clear hK1 K1
  refine SX.seq_k fun K2 hK2 => ?_
  refine SX.region_x ?_
  refine RX.live [0] (fun T1 hT1 => ?_)
  simp only [ΨH,forall_mem_nil',ΦY,Φy,Φz,ΦL,ev,Φi,Φv,Φs,Φt,Φx,Φw,Φd,Φn,reduceIte,reduceCtorEq,if_true,if_false,Φo,Φk,Φa,Φb,true_and,and_true,false_and,and_false,true_implies,forall_const,false_implies,ne_eq,not_true_eq_false,not_false_eq_true,decide_true,decide_false,Φu,and_self,true_or,or_true,dite_true,dite_false,Φe,Φc,decide_eq_true_eq,decide_eq_false_iff_not,Φf,Φh,Φg,Φj,beq_self_eq_true,Φp,Φq,Φr,Φl,Φm,eq_self,hP] at hT1
  have h1_0 := hT1; clear hT1
  refine RX.join 6 (fun (ss : Unit) T L' => T 8 = .bool (decide (80 ≤ l ∧ l ≤ 207)) ∧ L' = L ∧ (True)) (fun K3 hK3 => ?_) ?_
  · simp (maxSteps := 1000000) only [ΦY,Φy,Φz,ΦL,ev,Φi,Φv,Φs,Φt,Φx,Φw,Φd,Φn,reduceIte,reduceCtorEq,if_true,if_false,Φo,Φk,Φa,Φb,true_and,and_true,false_and,and_false,true_implies,forall_const,false_implies,ne_eq,not_true_eq_false,not_false_eq_true,decide_true,decide_false,Φu,and_self,true_or,or_true,dite_true,dite_false,Φe,Φc,decide_eq_true_eq,decide_eq_false_iff_not,Φf,Φh,Φg,Φj,beq_self_eq_true,Φp,Φq,Φr,Φl,Φm,eq_self,Ψx,Ψm,Ψn,VCops,VQops,Ψv,putVC,VC,VQ,ΦU,ΦV,ΦN,ΦO,ΦE,ΦF,ΦI,List.getElem?_cons_zero,List.getElem?_cons_succ,List.getElem?_nil,List.getElem?_toArray,Ψd,Ψi,ΦP,ΦA,ΦB,ΦT,ΦM,ΦW,ΦJ,ΦQ,ΦR,ΦX,ΦG,ΦH,ΦZ,ΦC,ΦD,Ψa,ΦK,Ψj,ΦS,Ψb,Ψe,Ψf,Ψg,Ψh,Ψo,exists_eq_left,exists_eq_left',exists_const,Ψs,Ψp,Ψq,bin_geq,bin_leq,pick_bool,hP,h1_0]
    repeat' (first | refine iteB (fun hg => ?_) (fun hg => ?_) | refine iteI (fun hg => ?_) (fun hg => ?_) | ((first | refine And.intro (by omega) ?_ | fail); try simp (maxSteps := 1000000) only [ΦY,Φy,Φz,ΦL,ev,Φi,Φv,Φs,Φt,Φx,Φw,Φd,Φn,reduceIte,reduceCtorEq,if_true,if_false,Φo,Φk,Φa,Φb,true_and,and_true,false_and,and_false,true_implies,forall_const,false_implies,ne_eq,not_true_eq_false,not_false_eq_true,decide_true,decide_false,Φu,and_self,true_or,or_true,dite_true,dite_false,Φe,Φc,decide_eq_true_eq,decide_eq_false_iff_not,Φf,Φh,Φg,Φj,beq_self_eq_true,Φp,Φq,Φr,Φl,Φm,eq_self,Ψx,Ψm,Ψn,VCops,VQops,Ψv,putVC,VC,VQ,ΦU,ΦV,ΦN,ΦO,ΦE,ΦF,ΦI,List.getElem?_cons_zero,List.getElem?_cons_succ,List.getElem?_nil,List.getElem?_toArray,Ψd,Ψi,ΦP,ΦA,ΦB,ΦT,ΦM,ΦW,ΦJ,ΦQ,ΦR,ΦX,ΦG,ΦH,ΦZ,ΦC,ΦD,Ψa,ΦK,Ψj,ΦS,Ψb,Ψe,Ψf,Ψg,Ψh,Ψo,exists_eq_left,exists_eq_left',exists_const,Ψs,Ψp,Ψq,bin_geq,bin_leq,pick_bool,hP,h1_0]) | fail)
    all_goals
      refine hK3 () _ (L) _ (by first | exact Less.refl _ | exact Less.drop _ _ | exact Less.drops (Less.drop _ _) | exact Less.drops (Less.drops (Less.drop _ _)) | exact Less.drops (Less.drops (Less.drops (Less.drop _ _))) | exact Less.drops (Less.drops (Less.drops (Less.drops (Less.drop _ _))))) ?_
      try dsimp only
      refine ⟨?_, ?_, ?_⟩
      · simp (maxSteps := 1000000) only [ΦY,Φy,Φz,ΦL,ev,Φi,Φv,Φs,Φt,Φx,Φw,Φd,Φn,reduceIte,reduceCtorEq,if_true,if_false,Φo,Φk,Φa,Φb,true_and,and_true,false_and,and_false,true_implies,forall_const,false_implies,ne_eq,not_true_eq_false,not_false_eq_true,decide_true,decide_false,Φu,and_self,true_or,or_true,dite_true,dite_false,Φe,Φc,decide_eq_true_eq,decide_eq_false_iff_not,Φf,Φh,Φg,Φj,beq_self_eq_true,Φp,Φq,Φr,Φl,Φm,eq_self,hP,h1_0]
        first | done | exact congrArg _ (decide_eq_decide.2 (by omega)) | exact congrArg _ (decide_eq_true (by omega)).symm | exact congrArg _ (decide_eq_false (by omega)).symm
      · rfl
      · trivial
  · intro ss T2 L2 hI
    obtain ⟨h2_8, hL2, hinv⟩ := hI
    replace hL2 := hL2.symm
    subst hL2
    clear h1_0 T1
    refine RX.done ?_
    simp (maxSteps := 1000000) only [ΦY,Φy,Φz,ΦL,ev,Φi,Φv,Φs,Φt,Φx,Φw,Φd,Φn,reduceIte,reduceCtorEq,if_true,if_false,Φo,Φk,Φa,Φb,true_and,and_true,false_and,and_false,true_implies,forall_const,false_implies,ne_eq,not_true_eq_false,not_false_eq_true,decide_true,decide_false,Φu,and_self,true_or,or_true,dite_true,dite_false,Φe,Φc,decide_eq_true_eq,decide_eq_false_iff_not,Φf,Φh,Φg,Φj,beq_self_eq_true,Φp,Φq,Φr,Φl,Φm,eq_self,Ψx,Ψm,Ψn,VCops,VQops,Ψv,putVC,VC,VQ,ΦU,ΦV,ΦN,ΦO,ΦE,ΦF,ΦI,List.getElem?_cons_zero,List.getElem?_cons_succ,List.getElem?_nil,List.getElem?_toArray,Ψd,Ψi,ΦP,ΦA,ΦB,ΦT,ΦM,ΦW,ΦJ,ΦQ,ΦR,ΦX,ΦG,ΦH,ΦZ,ΦC,ΦD,Ψa,ΦK,Ψj,ΦS,Ψb,Ψe,Ψf,Ψg,Ψh,Ψo,exists_eq_left,exists_eq_left',exists_const,Ψs,Ψp,Ψq,hP,h2_8]
    refine hK2 _ _ ?_
    try clear hK2 K2
    refine SX.ret ?_
    simp only [Φi, Φv, Φs, Φt, Φx, Φw, Φd, if_true, if_false, reduceIte, retQ_ret]
    try simp only [res0,res1,res2,res3,ΦY,Φy,Φz,ΦL,ev,Φi,Φv,Φs,Φt,Φx,Φw,Φd,Φn,reduceIte,reduceCtorEq,if_true,if_false,Φo,Φk,Φa,Φb,true_and,and_true,false_and,and_false,true_implies,forall_const,false_implies,ne_eq,not_true_eq_false,not_false_eq_true,decide_true,decide_false,Φu,and_self,true_or,or_true,dite_true,dite_false,Φe,Φc,decide_eq_true_eq,decide_eq_false_iff_not,Φf,Φh,Φg,Φj,beq_self_eq_true,Φp,Φq,Φr,Φl,Φm,eq_self,hP,h2_8]
    exact ⟨_, L, (by first | exact Less.refl _ | exact Less.drop _ _ | exact Less.drops (Less.drop _ _) | exact Less.drops (Less.drops (Less.drop _ _)) | exact Less.drops (Less.drops (Less.drops (Less.drop _ _))) | exact Less.drops (Less.drops (Less.drops (Less.drops (Less.drop _ _))))), rfl, rfl, rfl⟩
set_option maxHeartbeats 1000000 in
set_option maxRecDepth 100000 in
theorem refCheck_spec {Γ : Ctx} (hP : Γ.P = Tryd.prog) {L : Hp} {l c g : Int} {o : Bool} :
    SCall Γ 33 #[(.agg #[.int .i64 l, .int .i64 c, .bool o, .int .i64 g])] L (fun v L' => v = .int .i64 (chk l c g) ∧ L' = L) := by
  refine SCall.enter (n := 47) (res1 2) (hP ▸ Tryd.func33) rfl rfl (by simp) (res1_ok rfl) ?_
  refine SX.seq_k fun K1 hK1 => ?_
  refine SX.region ?_
  simp (maxSteps := 1000000) only [ΦY,Φy,Φz,ΦL,ev,Φi,Φv,Φs,Φt,Φx,Φw,Φd,Φn,reduceIte,reduceCtorEq,if_true,if_false,Φo,Φk,Φa,Φb,true_and,and_true,false_and,and_false,true_implies,forall_const,false_implies,ne_eq,not_true_eq_false,not_false_eq_true,decide_true,decide_false,Φu,and_self,true_or,or_true,dite_true,dite_false,Φe,Φc,decide_eq_true_eq,decide_eq_false_iff_not,Φf,Φh,Φg,Φj,beq_self_eq_true,Φp,Φq,Φr,Φl,Φm,eq_self,Ψx,Ψm,Ψn,VCops,VQops,Ψv,putVC,VC,VQ,ΦU,ΦV,ΦN,ΦO,ΦE,ΦF,ΦI,List.getElem?_cons_zero,List.getElem?_cons_succ,List.getElem?_nil,List.getElem?_toArray,Ψd,Ψi,ΦP,ΦA,ΦB,ΦT,ΦM,ΦW,ΦJ,ΦQ,ΦR,ΦX,ΦG,ΦH,ΦZ,ΦC,ΦD,Ψa,ΦK,Ψj,ΦS,Ψb,Ψe,Ψf,Ψg,Ψh,Ψo,exists_eq_left,exists_eq_left',exists_const,Ψs,Ψp,Ψq,cells_int,cells_bool,ΨB,Ψz,ΨD,cells_agg,oneB_nil,oneB_cons,one_int,one_bool,one_string,ΨE,one_slice,one_map,one_func,ΨF,ΨC,one_iface,cells_map,cells_func,ΨA,Ψy,ΨG,T.elA_24,T.lay_24,T.szA_24,T.zr_24,Tryd.underlying24,hP]
  intro bx
  refine hK1 _ _ ?_
  try clear hK1 K1
  refine SX.seq_k fun K2 hK2 => ?_
  refine SX.seq_k fun K3 hK3 => ?_
  refine SX.region_x ?_
  refine RX.live [1] (fun T1 hT1 => ?_)
  simp only [ΨH,forall_mem_nil',ΦY,Φy,Φz,ΦL,ev,Φi,Φv,Φs,Φt,Φx,Φw,Φd,Φn,reduceIte,reduceCtorEq,if_true,if_false,Φo,Φk,Φa,Φb,true_and,and_true,false_and,and_false,true_implies,forall_const,false_implies,ne_eq,not_true_eq_false,not_false_eq_true,decide_true,decide_false,Φu,and_self,true_or,or_true,dite_true,dite_false,Φe,Φc,decide_eq_true_eq,decide_eq_false_iff_not,Φf,Φh,Φg,Φj,beq_self_eq_true,Φp,Φq,Φr,Φl,Φm,eq_self,hP] at hT1
  have h1_1 := hT1; clear hT1
  refine RX.join 8 (fun (ss : Unit) T L' => T 11 = .bool (decide (l < 0 ∨ 261 < l)) ∧ T 1 = T1 1 ∧ L' = some (bx, .cells #[.int .i64 l, .int .i64 c, .bool o, .int .i64 g] 24 (0, 0)) :: L ∧ (True)) (fun K4 hK4 => ?_) ?_
  · simp only [h1_1] at hK4
    refine VCops_cut 4 fun K5 hK5 => ?_
    simp (maxSteps := 1000000) only [ΦY,Φy,Φz,ΦL,ev,Φi,Φv,Φs,Φt,Φx,Φw,Φd,Φn,reduceIte,reduceCtorEq,if_true,if_false,Φo,Φk,Φa,Φb,true_and,and_true,false_and,and_false,true_implies,forall_const,false_implies,ne_eq,not_true_eq_false,not_false_eq_true,decide_true,decide_false,Φu,and_self,true_or,or_true,dite_true,dite_false,Φe,Φc,decide_eq_true_eq,decide_eq_false_iff_not,Φf,Φh,Φg,Φj,beq_self_eq_true,Φp,Φq,Φr,Φl,Φm,eq_self,Ψx,Ψm,Ψn,VCops,VQops,Ψv,putVC,VC,VQ,ΦU,ΦV,ΦN,ΦO,ΦE,ΦF,ΦI,List.getElem?_cons_zero,List.getElem?_cons_succ,List.getElem?_nil,List.getElem?_toArray,Ψd,Ψi,ΦP,ΦA,ΦB,ΦT,ΦM,ΦW,ΦJ,ΦQ,ΦR,ΦX,ΦG,ΦH,ΦZ,ΦC,ΦD,Ψa,ΦK,Ψj,ΦS,Ψb,Ψe,Ψf,Ψg,Ψh,Ψo,exists_eq_left,exists_eq_left',exists_const,Ψs,Ψp,Ψq,fa_ptr,Ψu,Ψl,Ψw,Ψc,Ψr,Ψt,Ψk,T.elA_24,T.lay_24,T.szA_24,T.zr_24,Tryd.underlying24,ld_ptr,loadVC,loadN,T.szA_3,T.zr_3,Tryd.underlying3,bin_lss,hP,h1_1]
    repeat' (first | refine iteB (fun hg => ?_) (fun hg => ?_) | refine iteI (fun hg => ?_) (fun hg => ?_) | ((first | refine And.intro (by omega) ?_ | refine ⟨_, Cell.at 0 rfl rfl, ?_⟩ | fail); try simp (maxSteps := 1000000) only [ΦY,Φy,Φz,ΦL,ev,Φi,Φv,Φs,Φt,Φx,Φw,Φd,Φn,reduceIte,reduceCtorEq,if_true,if_false,Φo,Φk,Φa,Φb,true_and,and_true,false_and,and_false,true_implies,forall_const,false_implies,ne_eq,not_true_eq_false,not_false_eq_true,decide_true,decide_false,Φu,and_self,true_or,or_true,dite_true,dite_false,Φe,Φc,decide_eq_true_eq,decide_eq_false_iff_not,Φf,Φh,Φg,Φj,beq_self_eq_true,Φp,Φq,Φr,Φl,Φm,eq_self,Ψx,Ψm,Ψn,VCops,VQops,Ψv,putVC,VC,VQ,ΦU,ΦV,ΦN,ΦO,ΦE,ΦF,ΦI,List.getElem?_cons_zero,List.getElem?_cons_succ,List.getElem?_nil,List.getElem?_toArray,Ψd,Ψi,ΦP,ΦA,ΦB,ΦT,ΦM,ΦW,ΦJ,ΦQ,ΦR,ΦX,ΦG,ΦH,ΦZ,ΦC,ΦD,Ψa,ΦK,Ψj,ΦS,Ψb,Ψe,Ψf,Ψg,Ψh,Ψo,exists_eq_left,exists_eq_left',exists_const,Ψs,Ψp,Ψq,fa_ptr,Ψu,Ψl,Ψw,Ψc,Ψr,Ψt,Ψk,T.elA_24,T.lay_24,T.szA_24,T.zr_24,Tryd.underlying24,ld_ptr,loadVC,loadN,T.szA_3,T.zr_3,Tryd.underlying3,bin_lss,hP,h1_1]) | fail)
    all_goals (refine hK5 _ _ ?_; clear hK5 K5)
    all_goals
      try simp (maxSteps := 1000000) only [ΦY,Φy,Φz,ΦL,ev,Φi,Φv,Φs,Φt,Φx,Φw,Φd,Φn,reduceIte,reduceCtorEq,if_true,if_false,Φo,Φk,Φa,Φb,true_and,and_true,false_and,and_false,true_implies,forall_const,false_implies,ne_eq,not_true_eq_false,not_false_eq_true,decide_true,decide_false,Φu,and_self,true_or,or_true,dite_true,dite_false,Φe,Φc,decide_eq_true_eq,decide_eq_false_iff_not,Φf,Φh,Φg,Φj,beq_self_eq_true,Φp,Φq,Φr,Φl,Φm,eq_self,Ψx,Ψm,Ψn,VCops,VQops,Ψv,putVC,VC,VQ,ΦU,ΦV,ΦN,ΦO,ΦE,ΦF,ΦI,List.getElem?_cons_zero,List.getElem?_cons_succ,List.getElem?_nil,List.getElem?_toArray,Ψd,Ψi,ΦP,ΦA,ΦB,ΦT,ΦM,ΦW,ΦJ,ΦQ,ΦR,ΦX,ΦG,ΦH,ΦZ,ΦC,ΦD,Ψa,ΦK,Ψj,ΦS,Ψb,Ψe,Ψf,Ψg,Ψh,Ψo,exists_eq_left,exists_eq_left',exists_const,Ψs,Ψp,Ψq,fa_ptr,Ψu,Ψl,Ψw,Ψc,Ψr,Ψt,Ψk,T.elA_24,T.lay_24,T.szA_24,T.zr_24,Tryd.underlying24,ld_ptr,loadVC,loadN,T.szA_3,T.zr_3,Tryd.underlying3,bin_gtr,pick_bool,hP,h1_1]
      repeat' (first | refine iteB (fun hg => ?_) (fun hg => ?_) | refine iteI (fun hg => ?_) (fun hg => ?_) | ((first | refine And.intro (by omega) ?_ | refine ⟨_, Cell.at 0 rfl rfl, ?_⟩ | fail); try simp (maxSteps := 1000000) only [ΦY,Φy,Φz,ΦL,ev,Φi,Φv,Φs,Φt,Φx,Φw,Φd,Φn,reduceIte,reduceCtorEq,if_true,if_false,Φo,Φk,Φa,Φb,true_and,and_true,false_and,and_false,true_implies,forall_const,false_implies,ne_eq,not_true_eq_false,not_false_eq_true,decide_true,decide_false,Φu,and_self,true_or,or_true,dite_true,dite_false,Φe,Φc,decide_eq_true_eq,decide_eq_false_iff_not,Φf,Φh,Φg,Φj,beq_self_eq_true,Φp,Φq,Φr,Φl,Φm,eq_self,Ψx,Ψm,Ψn,VCops,VQops,Ψv,putVC,VC,VQ,ΦU,ΦV,ΦN,ΦO,ΦE,ΦF,ΦI,List.getElem?_cons_zero,List.getElem?_cons_succ,List.getElem?_nil,List.getElem?_toArray,Ψd,Ψi,ΦP,ΦA,ΦB,ΦT,ΦM,ΦW,ΦJ,ΦQ,ΦR,ΦX,ΦG,ΦH,ΦZ,ΦC,ΦD,Ψa,ΦK,Ψj,ΦS,Ψb,Ψe,Ψf,Ψg,Ψh,Ψo,exists_eq_left,exists_eq_left',exists_const,Ψs,Ψp,Ψq,fa_ptr,Ψu,Ψl,Ψw,Ψc,Ψr,Ψt,Ψk,T.elA_24,T.lay_24,T.szA_24,T.zr_24,Tryd.underlying24,ld_ptr,loadVC,loadN,T.szA_3,T.zr_3,Tryd.underlying3,bin_gtr,pick_bool,hP,h1_1]) | fail)
    all_goals
      refine hK4 () _ (some (bx, .cells #[.int .i64 l, .int .i64 c, .bool o, .int .i64 g] 24 (0, 0)) :: L) _ (by first | exact Less.refl _ | exact Less.drop _ _ | exact Less.drops (Less.drop _ _) | exact Less.drops (Less.drops (Less.drop _ _)) | exact Less.drops (Less.drops (Less.drops (Less.drop _ _))) | exact Less.drops (Less.drops (Less.drops (Less.drops (Less.drop _ _))))) ?_
      try dsimp only
      refine ⟨?_, ?_, ?_, ?_⟩
      · simp (maxSteps := 1000000) only [ΦY,Φy,Φz,ΦL,ev,Φi,Φv,Φs,Φt,Φx,Φw,Φd,Φn,reduceIte,reduceCtorEq,if_true,if_false,Φo,Φk,Φa,Φb,true_and,and_true,false_and,and_false,true_implies,forall_const,false_implies,ne_eq,not_true_eq_false,not_false_eq_true,decide_true,decide_false,Φu,and_self,true_or,or_true,dite_true,dite_false,Φe,Φc,decide_eq_true_eq,decide_eq_false_iff_not,Φf,Φh,Φg,Φj,beq_self_eq_true,Φp,Φq,Φr,Φl,Φm,eq_self,hP,h1_1]
        first | done | exact congrArg _ (decide_eq_decide.2 (by omega)) | exact congrArg _ (decide_eq_true (by omega)).symm | exact congrArg _ (decide_eq_false (by omega)).symm
      · simp (maxSteps := 1000000) only [ΦY,Φy,Φz,ΦL,ev,Φi,Φv,Φs,Φt,Φx,Φw,Φd,Φn,reduceIte,reduceCtorEq,if_true,if_false,Φo,Φk,Φa,Φb,true_and,and_true,false_and,and_false,true_implies,forall_const,false_implies,ne_eq,not_true_eq_false,not_false_eq_true,decide_true,decide_false,Φu,and_self,true_or,or_true,dite_true,dite_false,Φe,Φc,decide_eq_true_eq,decide_eq_false_iff_not,Φf,Φh,Φg,Φj,beq_self_eq_true,Φp,Φq,Φr,Φl,Φm,eq_self,hP,h1_1]
      · rfl
      · trivial
  · intro ss T2 L2 hI
    simp only [h1_1] at hI 
    obtain ⟨h2_11, h2_1, hL2, hinv⟩ := hI
    replace hL2 := hL2.symm
    subst hL2
    clear h1_1 T1
    refine RX.live [1, 11] (fun T3 hT3 => ?_)
    simp only [ΨH,forall_mem_nil',ΦY,Φy,Φz,ΦL,ev,Φi,Φv,Φs,Φt,Φx,Φw,Φd,Φn,reduceIte,reduceCtorEq,if_true,if_false,Φo,Φk,Φa,Φb,true_and,and_true,false_and,and_false,true_implies,forall_const,false_implies,ne_eq,not_true_eq_false,not_false_eq_true,decide_true,decide_false,Φu,and_self,true_or,or_true,dite_true,dite_false,Φe,Φc,decide_eq_true_eq,decide_eq_false_iff_not,Φf,Φh,Φg,Φj,beq_self_eq_true,Φp,Φq,Φr,Φl,Φm,eq_self,hP,h2_11,h2_1] at hT3
    obtain ⟨h3_1, h3_11⟩ := hT3
    clear h2_11 h2_1 T2
    refine RX.join 5 (fun (ss : Unit) T L' => T 16 = .bool (decide (l < 0 ∨ 261 < l ∨ c < 0)) ∧ T 1 = T3 1 ∧ L' = some (bx, .cells #[.int .i64 l, .int .i64 c, .bool o, .int .i64 g] 24 (0, 0)) :: L ∧ (True)) (fun K6 hK6 => ?_) ?_
    · simp only [h3_1] at hK6
      simp (maxSteps := 1000000) only [ΦY,Φy,Φz,ΦL,ev,Φi,Φv,Φs,Φt,Φx,Φw,Φd,Φn,reduceIte,reduceCtorEq,if_true,if_false,Φo,Φk,Φa,Φb,true_and,and_true,false_and,and_false,true_implies,forall_const,false_implies,ne_eq,not_true_eq_false,not_false_eq_true,decide_true,decide_false,Φu,and_self,true_or,or_true,dite_true,dite_false,Φe,Φc,decide_eq_true_eq,decide_eq_false_iff_not,Φf,Φh,Φg,Φj,beq_self_eq_true,Φp,Φq,Φr,Φl,Φm,eq_self,Ψx,Ψm,Ψn,VCops,VQops,Ψv,putVC,VC,VQ,ΦU,ΦV,ΦN,ΦO,ΦE,ΦF,ΦI,List.getElem?_cons_zero,List.getElem?_cons_succ,List.getElem?_nil,List.getElem?_toArray,Ψd,Ψi,ΦP,ΦA,ΦB,ΦT,ΦM,ΦW,ΦJ,ΦQ,ΦR,ΦX,ΦG,ΦH,ΦZ,ΦC,ΦD,Ψa,ΦK,Ψj,ΦS,Ψb,Ψe,Ψf,Ψg,Ψh,Ψo,exists_eq_left,exists_eq_left',exists_const,Ψs,Ψp,Ψq,fa_ptr,Ψu,Ψl,Ψw,Ψc,Ψr,Ψt,Ψk,T.elA_24,T.lay_24,T.szA_24,T.zr_24,Tryd.underlying24,ld_ptr,loadVC,loadN,T.szA_3,T.zr_3,Tryd.underlying3,bin_lss,pick_bool,hP,h3_1,h3_11]
      repeat' (first | refine iteB (fun hg => ?_) (fun hg => ?_) | refine iteI (fun hg => ?_) (fun hg => ?_) | ((first | refine And.intro (by omega) ?_ | refine ⟨_, Cell.at 0 rfl rfl, ?_⟩ | fail); try simp (maxSteps := 1000000) only [ΦY,Φy,Φz,ΦL,ev,Φi,Φv,Φs,Φt,Φx,Φw,Φd,Φn,reduceIte,reduceCtorEq,if_true,if_false,Φo,Φk,Φa,Φb,true_and,and_true,false_and,and_false,true_implies,forall_const,false_implies,ne_eq,not_true_eq_false,not_false_eq_true,decide_true,decide_false,Φu,and_self,true_or,or_true,dite_true,dite_false,Φe,Φc,decide_eq_true_eq,decide_eq_false_iff_not,Φf,Φh,Φg,Φj,beq_self_eq_true,Φp,Φq,Φr,Φl,Φm,eq_self,Ψx,Ψm,Ψn,VCops,VQops,Ψv,putVC,VC,VQ,ΦU,ΦV,ΦN,ΦO,ΦE,ΦF,ΦI,List.getElem?_cons_zero,List.getElem?_cons_succ,List.getElem?_nil,List.getElem?_toArray,Ψd,Ψi,ΦP,ΦA,ΦB,ΦT,ΦM,ΦW,ΦJ,ΦQ,ΦR,ΦX,ΦG,ΦH,ΦZ,ΦC,ΦD,Ψa,ΦK,Ψj,ΦS,Ψb,Ψe,Ψf,Ψg,Ψh,Ψo,exists_eq_left,exists_eq_left',exists_const,Ψs,Ψp,Ψq,fa_ptr,Ψu,Ψl,Ψw,Ψc,Ψr,Ψt,Ψk,T.elA_24,T.lay_24,T.szA_24,T.zr_24,Tryd.underlying24,ld_ptr,loadVC,loadN,T.szA_3,T.zr_3,Tryd.underlying3,bin_lss,pick_bool,hP,h3_1,h3_11]) | fail)
      all_goals
        refine hK6 () _ (some (bx, .cells #[.int .i64 l, .int .i64 c, .bool o, .int .i64 g] 24 (0, 0)) :: L) _ (by first | exact Less.refl _ | exact Less.drop _ _ | exact Less.drops (Less.drop _ _) | exact Less.drops (Less.drops (Less.drop _ _)) | exact Less.drops (Less.drops (Less.drops (Less.drop _ _))) | exact Less.drops (Less.drops (Less.drops (Less.drops (Less.drop _ _))))) ?_
        try dsimp only
        refine ⟨?_, ?_, ?_, ?_⟩
        · simp (maxSteps := 1000000) only [ΦY,Φy,Φz,ΦL,ev,Φi,Φv,Φs,Φt,Φx,Φw,Φd,Φn,reduceIte,reduceCtorEq,if_true,if_false,Φo,Φk,Φa,Φb,true_and,and_true,false_and,and_false,true_implies,forall_const,false_implies,ne_eq,not_true_eq_false,not_false_eq_true,decide_true,decide_false,Φu,and_self,true_or,or_true,dite_true,dite_false,Φe,Φc,decide_eq_true_eq,decide_eq_false_iff_not,Φf,Φh,Φg,Φj,beq_self_eq_true,Φp,Φq,Φr,Φl,Φm,eq_self,hP,h3_1,h3_11]
          first | done | exact congrArg _ (decide_eq_decide.2 (by omega)) | exact congrArg _ (decide_eq_true (by omega)).symm | exact congrArg _ (decide_eq_false (by omega)).symm
        · simp (maxSteps := 1000000) only [ΦY,Φy,Φz,ΦL,ev,Φi,Φv,Φs,Φt,Φx,Φw,Φd,Φn,reduceIte,reduceCtorEq,if_true,if_false,Φo,Φk,Φa,Φb,true_and,and_true,false_and,and_false,true_implies,forall_const,false_implies,ne_eq,not_true_eq_false,not_false_eq_true,decide_true,decide_false,Φu,and_self,true_or,or_true,dite_true,dite_false,Φe,Φc,decide_eq_true_eq,decide_eq_false_iff_not,Φf,Φh,Φg,Φj,beq_self_eq_true,Φp,Φq,Φr,Φl,Φm,eq_self,hP,h3_1,h3_11]
        · rfl
        · trivial
    · intro ss T4 L4 hI
      simp only [h3_1] at hI 
      obtain ⟨h4_16, h4_1, hL4, hinv⟩ := hI
      replace hL4 := hL4.symm
      subst hL4
      clear h3_1 h3_11 T3
      refine RX.live [1, 16] (fun T5 hT5 => ?_)
      simp only [ΨH,forall_mem_nil',ΦY,Φy,Φz,ΦL,ev,Φi,Φv,Φs,Φt,Φx,Φw,Φd,Φn,reduceIte,reduceCtorEq,if_true,if_false,Φo,Φk,Φa,Φb,true_and,and_true,false_and,and_false,true_implies,forall_const,false_implies,ne_eq,not_true_eq_false,not_false_eq_true,decide_true,decide_false,Φu,and_self,true_or,or_true,dite_true,dite_false,Φe,Φc,decide_eq_true_eq,decide_eq_false_iff_not,Φf,Φh,Φg,Φj,beq_self_eq_true,Φp,Φq,Φr,Φl,Φm,eq_self,hP,h4_16,h4_1] at hT5
      obtain ⟨h5_1, h5_16⟩ := hT5
      clear h4_16 h4_1 T4
      refine RX.join 5 (fun (ss : Unit) T L' => T 21 = .bool (decide (l < 0 ∨ 261 < l ∨ c < 0 ∨ 13 < c)) ∧ T 1 = T5 1 ∧ L' = some (bx, .cells #[.int .i64 l, .int .i64 c, .bool o, .int .i64 g] 24 (0, 0)) :: L ∧ (True)) (fun K7 hK7 => ?_) ?_
      · simp only [h5_1] at hK7
        simp (maxSteps := 1000000) only [ΦY,Φy,Φz,ΦL,ev,Φi,Φv,Φs,Φt,Φx,Φw,Φd,Φn,reduceIte,reduceCtorEq,if_true,if_false,Φo,Φk,Φa,Φb,true_and,and_true,false_and,and_false,true_implies,forall_const,false_implies,ne_eq,not_true_eq_false,not_false_eq_true,decide_true,decide_false,Φu,and_self,true_or,or_true,dite_true,dite_false,Φe,Φc,decide_eq_true_eq,decide_eq_false_iff_not,Φf,Φh,Φg,Φj,beq_self_eq_true,Φp,Φq,Φr,Φl,Φm,eq_self,Ψx,Ψm,Ψn,VCops,VQops,Ψv,putVC,VC,VQ,ΦU,ΦV,ΦN,ΦO,ΦE,ΦF,ΦI,List.getElem?_cons_zero,List.getElem?_cons_succ,List.getElem?_nil,List.getElem?_toArray,Ψd,Ψi,ΦP,ΦA,ΦB,ΦT,ΦM,ΦW,ΦJ,ΦQ,ΦR,ΦX,ΦG,ΦH,ΦZ,ΦC,ΦD,Ψa,ΦK,Ψj,ΦS,Ψb,Ψe,Ψf,Ψg,Ψh,Ψo,exists_eq_left,exists_eq_left',exists_const,Ψs,Ψp,Ψq,fa_ptr,Ψu,Ψl,Ψw,Ψc,Ψr,Ψt,Ψk,T.elA_24,T.lay_24,T.szA_24,T.zr_24,Tryd.underlying24,ld_ptr,loadVC,loadN,T.szA_3,T.zr_3,Tryd.underlying3,bin_gtr,pick_bool,hP,h5_1,h5_16]
        repeat' (first | refine iteB (fun hg => ?_) (fun hg => ?_) | refine iteI (fun hg => ?_) (fun hg => ?_) | ((first | refine And.intro (by omega) ?_ | refine ⟨_, Cell.at 0 rfl rfl, ?_⟩ | fail); try simp (maxSteps := 1000000) only [ΦY,Φy,Φz,ΦL,ev,Φi,Φv,Φs,Φt,Φx,Φw,Φd,Φn,reduceIte,reduceCtorEq,if_true,if_false,Φo,Φk,Φa,Φb,true_and,and_true,false_and,and_false,true_implies,forall_const,false_implies,ne_eq,not_true_eq_false,not_false_eq_true,decide_true,decide_false,Φu,and_self,true_or,or_true,dite_true,dite_false,Φe,Φc,decide_eq_true_eq,decide_eq_false_iff_not,Φf,Φh,Φg,Φj,beq_self_eq_true,Φp,Φq,Φr,Φl,Φm,eq_self,Ψx,Ψm,Ψn,VCops,VQops,Ψv,putVC,VC,VQ,ΦU,ΦV,ΦN,ΦO,ΦE,ΦF,ΦI,List.getElem?_cons_zero,List.getElem?_cons_succ,List.getElem?_nil,List.getElem?_toArray,Ψd,Ψi,ΦP,ΦA,ΦB,ΦT,ΦM,ΦW,ΦJ,ΦQ,ΦR,ΦX,ΦG,ΦH,ΦZ,ΦC,ΦD,Ψa,ΦK,Ψj,ΦS,Ψb,Ψe,Ψf,Ψg,Ψh,Ψo,exists_eq_left,exists_eq_left',exists_const,Ψs,Ψp,Ψq,fa_ptr,Ψu,Ψl,Ψw,Ψc,Ψr,Ψt,Ψk,T.elA_24,T.lay_24,T.szA_24,T.zr_24,Tryd.underlying24,ld_ptr,loadVC,loadN,T.szA_3,T.zr_3,Tryd.underlying3,bin_gtr,pick_bool,hP,h5_1,h5_16]) | fail)
        all_goals
          refine hK7 () _ (some (bx, .cells #[.int .i64 l, .int .i64 c, .bool o, .int .i64 g] 24 (0, 0)) :: L) _ (by first | exact Less.refl _ | exact Less.drop _ _ | exact Less.drops (Less.drop _ _) | exact Less.drops (Less.drops (Less.drop _ _)) | exact Less.drops (Less.drops (Less.drops (Less.drop _ _))) | exact Less.drops (Less.drops (Less.drops (Less.drops (Less.drop _ _))))) ?_
          try dsimp only
          refine ⟨?_, ?_, ?_, ?_⟩
          · simp (maxSteps := 1000000) only [ΦY,Φy,Φz,ΦL,ev,Φi,Φv,Φs,Φt,Φx,Φw,Φd,Φn,reduceIte,reduceCtorEq,if_true,if_false,Φo,Φk,Φa,Φb,true_and,and_true,false_and,and_false,true_implies,forall_const,false_implies,ne_eq,not_true_eq_false,not_false_eq_true,decide_true,decide_false,Φu,and_self,true_or,or_true,dite_true,dite_false,Φe,Φc,decide_eq_true_eq,decide_eq_false_iff_not,Φf,Φh,Φg,Φj,beq_self_eq_true,Φp,Φq,Φr,Φl,Φm,eq_self,hP,h5_1,h5_16]
            first | done | exact congrArg _ (decide_eq_decide.2 (by omega)) | exact congrArg _ (decide_eq_true (by omega)).symm | exact congrArg _ (decide_eq_false (by omega)).symm
          · simp (maxSteps := 1000000) only [ΦY,Φy,Φz,ΦL,ev,Φi,Φv,Φs,Φt,Φx,Φw,Φd,Φn,reduceIte,reduceCtorEq,if_true,if_false,Φo,Φk,Φa,Φb,true_and,and_true,false_and,and_false,true_implies,forall_const,false_implies,ne_eq,not_true_eq_false,not_false_eq_true,decide_true,decide_false,Φu,and_self,true_or,or_true,dite_true,dite_false,Φe,Φc,decide_eq_true_eq,decide_eq_false_iff_not,Φf,Φh,Φg,Φj,beq_self_eq_true,Φp,Φq,Φr,Φl,Φm,eq_self,hP,h5_1,h5_16]
          · rfl
          · trivial
      · intro ss T6 L6 hI
        simp only [h5_1] at hI 
        obtain ⟨h6_21, h6_1, hL6, hinv⟩ := hI
        replace hL6 := hL6.symm
        subst hL6
        clear h5_1 h5_16 T5
        refine RX.live [1, 21] (fun T7 hT7 => ?_)
        simp only [ΨH,forall_mem_nil',ΦY,Φy,Φz,ΦL,ev,Φi,Φv,Φs,Φt,Φx,Φw,Φd,Φn,reduceIte,reduceCtorEq,if_true,if_false,Φo,Φk,Φa,Φb,true_and,and_true,false_and,and_false,true_implies,forall_const,false_implies,ne_eq,not_true_eq_false,not_false_eq_true,decide_true,decide_false,Φu,and_self,true_or,or_true,dite_true,dite_false,Φe,Φc,decide_eq_true_eq,decide_eq_false_iff_not,Φf,Φh,Φg,Φj,beq_self_eq_true,Φp,Φq,Φr,Φl,Φm,eq_self,hP,h6_21,h6_1] at hT7
        obtain ⟨h7_1, h7_21⟩ := hT7
        clear h6_21 h6_1 T6
        refine RX.join 5 (fun (ss : Unit) T L' => T 26 = .bool (decide (l < 0 ∨ 261 < l ∨ c < 0 ∨ 13 < c ∨ g < 0)) ∧ T 1 = T7 1 ∧ L' = some (bx, .cells #[.int .i64 l, .int .i64 c, .bool o, .int .i64 g] 24 (0, 0)) :: L ∧ (True)) (fun K8 hK8 => ?_) ?_
        · simp only [h7_1] at hK8
          simp (maxSteps := 1000000) only [ΦY,Φy,Φz,ΦL,ev,Φi,Φv,Φs,Φt,Φx,Φw,Φd,Φn,reduceIte,reduceCtorEq,if_true,if_false,Φo,Φk,Φa,Φb,true_and,and_true,false_and,and_false,true_implies,forall_const,false_implies,ne_eq,not_true_eq_false,not_false_eq_true,decide_true,decide_false,Φu,and_self,true_or,or_true,dite_true,dite_false,Φe,Φc,decide_eq_true_eq,decide_eq_false_iff_not,Φf,Φh,Φg,Φj,beq_self_eq_true,Φp,Φq,Φr,Φl,Φm,eq_self,Ψx,Ψm,Ψn,VCops,VQops,Ψv,putVC,VC,VQ,ΦU,ΦV,ΦN,ΦO,ΦE,ΦF,ΦI,List.getElem?_cons_zero,List.getElem?_cons_succ,List.getElem?_nil,List.getElem?_toArray,Ψd,Ψi,ΦP,ΦA,ΦB,ΦT,ΦM,ΦW,ΦJ,ΦQ,ΦR,ΦX,ΦG,ΦH,ΦZ,ΦC,ΦD,Ψa,ΦK,Ψj,ΦS,Ψb,Ψe,Ψf,Ψg,Ψh,Ψo,exists_eq_left,exists_eq_left',exists_const,Ψs,Ψp,Ψq,fa_ptr,Ψu,Ψl,Ψw,Ψc,Ψr,Ψt,Ψk,T.elA_24,T.lay_24,T.szA_24,T.zr_24,Tryd.underlying24,ld_ptr,loadVC,loadN,T.szA_3,T.zr_3,Tryd.underlying3,bin_lss,pick_bool,hP,h7_1,h7_21]
          repeat' (first | refine iteB (fun hg => ?_) (fun hg => ?_) | refine iteI (fun hg => ?_) (fun hg => ?_) | ((first | refine And.intro (by omega) ?_ | refine ⟨_, Cell.at 0 rfl rfl, ?_⟩ | fail); try simp (maxSteps := 1000000) only [ΦY,Φy,Φz,ΦL,ev,Φi,Φv,Φs,Φt,Φx,Φw,Φd,Φn,reduceIte,reduceCtorEq,if_true,if_false,Φo,Φk,Φa,Φb,true_and,and_true,false_and,and_false,true_implies,forall_const,false_implies,ne_eq,not_true_eq_false,not_false_eq_true,decide_true,decide_false,Φu,and_self,true_or,or_true,dite_true,dite_false,Φe,Φc,decide_eq_true_eq,decide_eq_false_iff_not,Φf,Φh,Φg,Φj,beq_self_eq_true,Φp,Φq,Φr,Φl,Φm,eq_self,Ψx,Ψm,Ψn,VCops,VQops,Ψv,putVC,VC,VQ,ΦU,ΦV,ΦN,ΦO,ΦE,ΦF,ΦI,List.getElem?_cons_zero,List.getElem?_cons_succ,List.getElem?_nil,List.getElem?_toArray,Ψd,Ψi,ΦP,ΦA,ΦB,ΦT,ΦM,ΦW,ΦJ,ΦQ,ΦR,ΦX,ΦG,ΦH,ΦZ,ΦC,ΦD,Ψa,ΦK,Ψj,ΦS,Ψb,Ψe,Ψf,Ψg,Ψh,Ψo,exists_eq_left,exists_eq_left',exists_const,Ψs,Ψp,Ψq,fa_ptr,Ψu,Ψl,Ψw,Ψc,Ψr,Ψt,Ψk,T.elA_24,T.lay_24,T.szA_24,T.zr_24,Tryd.underlying24,ld_ptr,loadVC,loadN,T.szA_3,T.zr_3,Tryd.underlying3,bin_lss,pick_bool,hP,h7_1,h7_21]) | fail)
          all_goals
            refine hK8 () _ (some (bx, .cells #[.int .i64 l, .int .i64 c, .bool o, .int .i64 g] 24 (0, 0)) :: L) _ (by first | exact Less.refl _ | exact Less.drop _ _ | exact Less.drops (Less.drop _ _) | exact Less.drops (Less.drops (Less.drop _ _)) | exact Less.drops (Less.drops (Less.drops (Less.drop _ _))) | exact Less.drops (Less.drops (Less.drops (Less.drops (Less.drop _ _))))) ?_
            try dsimp only
            refine ⟨?_, ?_, ?_, ?_⟩
            · simp (maxSteps := 1000000) only [ΦY,Φy,Φz,ΦL,ev,Φi,Φv,Φs,Φt,Φx,Φw,Φd,Φn,reduceIte,reduceCtorEq,if_true,if_false,Φo,Φk,Φa,Φb,true_and,and_true,false_and,and_false,true_implies,forall_const,false_implies,ne_eq,not_true_eq_false,not_false_eq_true,decide_true,decide_false,Φu,and_self,true_or,or_true,dite_true,dite_false,Φe,Φc,decide_eq_true_eq,decide_eq_false_iff_not,Φf,Φh,Φg,Φj,beq_self_eq_true,Φp,Φq,Φr,Φl,Φm,eq_self,hP,h7_1,h7_21]
              first | done | exact congrArg _ (decide_eq_decide.2 (by omega)) | exact congrArg _ (decide_eq_true (by omega)).symm | exact congrArg _ (decide_eq_false (by omega)).symm
            · simp (maxSteps := 1000000) only [ΦY,Φy,Φz,ΦL,ev,Φi,Φv,Φs,Φt,Φx,Φw,Φd,Φn,reduceIte,reduceCtorEq,if_true,if_false,Φo,Φk,Φa,Φb,true_and,and_true,false_and,and_false,true_implies,forall_const,false_implies,ne_eq,not_true_eq_false,not_false_eq_true,decide_true,decide_false,Φu,and_self,true_or,or_true,dite_true,dite_false,Φe,Φc,decide_eq_true_eq,decide_eq_false_iff_not,Φf,Φh,Φg,Φj,beq_self_eq_true,Φp,Φq,Φr,Φl,Φm,eq_self,hP,h7_1,h7_21]
            · rfl
            · trivial
        · intro ss T8 L8 hI
          simp only [h7_1] at hI 
          obtain ⟨h8_26, h8_1, hL8, hinv⟩ := hI
          replace hL8 := hL8.symm
          subst hL8
          clear h7_1 h7_21 T7
          refine RX.live [1, 26] (fun T9 hT9 => ?_)
          simp only [ΨH,forall_mem_nil',ΦY,Φy,Φz,ΦL,ev,Φi,Φv,Φs,Φt,Φx,Φw,Φd,Φn,reduceIte,reduceCtorEq,if_true,if_false,Φo,Φk,Φa,Φb,true_and,and_true,false_and,and_false,true_implies,forall_const,false_implies,ne_eq,not_true_eq_false,not_false_eq_true,decide_true,decide_false,Φu,and_self,true_or,or_true,dite_true,dite_false,Φe,Φc,decide_eq_true_eq,decide_eq_false_iff_not,Φf,Φh,Φg,Φj,beq_self_eq_true,Φp,Φq,Φr,Φl,Φm,eq_self,hP,h8_26,h8_1] at hT9
          obtain ⟨h9_1, h9_26⟩ := hT9
          clear h8_26 h8_1 T8
          refine RX.join 5 (fun (ss : Unit) T L' => T 31 = .bool (decide (l < 0 ∨ 261 < l ∨ c < 0 ∨ 13 < c ∨ g < 0 ∨ 8 < g)) ∧ T 1 = T9 1 ∧ L' = some (bx, .cells #[.int .i64 l, .int .i64 c, .bool o, .int .i64 g] 24 (0, 0)) :: L ∧ (True)) (fun K9 hK9 => ?_) ?_
          · simp only [h9_1] at hK9
            simp (maxSteps := 1000000) only [ΦY,Φy,Φz,ΦL,ev,Φi,Φv,Φs,Φt,Φx,Φw,Φd,Φn,reduceIte,reduceCtorEq,if_true,if_false,Φo,Φk,Φa,Φb,true_and,and_true,false_and,and_false,true_implies,forall_const,false_implies,ne_eq,not_true_eq_false,not_false_eq_true,decide_true,decide_false,Φu,and_self,true_or,or_true,dite_true,dite_false,Φe,Φc,decide_eq_true_eq,decide_eq_false_iff_not,Φf,Φh,Φg,Φj,beq_self_eq_true,Φp,Φq,Φr,Φl,Φm,eq_self,Ψx,Ψm,Ψn,VCops,VQops,Ψv,putVC,VC,VQ,ΦU,ΦV,ΦN,ΦO,ΦE,ΦF,ΦI,List.getElem?_cons_zero,List.getElem?_cons_succ,List.getElem?_nil,List.getElem?_toArray,Ψd,Ψi,ΦP,ΦA,ΦB,ΦT,ΦM,ΦW,ΦJ,ΦQ,ΦR,ΦX,ΦG,ΦH,ΦZ,ΦC,ΦD,Ψa,ΦK,Ψj,ΦS,Ψb,Ψe,Ψf,Ψg,Ψh,Ψo,exists_eq_left,exists_eq_left',exists_const,Ψs,Ψp,Ψq,fa_ptr,Ψu,Ψl,Ψw,Ψc,Ψr,Ψt,Ψk,T.elA_24,T.lay_24,T.szA_24,T.zr_24,Tryd.underlying24,ld_ptr,loadVC,loadN,T.szA_3,T.zr_3,Tryd.underlying3,bin_gtr,pick_bool,hP,h9_1,h9_26]
            repeat' (first | refine iteB (fun hg => ?_) (fun hg => ?_) | refine iteI (fun hg => ?_) (fun hg => ?_) | ((first | refine And.intro (by omega) ?_ | refine ⟨_, Cell.at 0 rfl rfl, ?_⟩ | fail); try simp (maxSteps := 1000000) only [ΦY,Φy,Φz,ΦL,ev,Φi,Φv,Φs,Φt,Φx,Φw,Φd,Φn,reduceIte,reduceCtorEq,if_true,if_false,Φo,Φk,Φa,Φb,true_and,and_true,false_and,and_false,true_implies,forall_const,false_implies,ne_eq,not_true_eq_false,not_false_eq_true,decide_true,decide_false,Φu,and_self,true_or,or_true,dite_true,dite_false,Φe,Φc,decide_eq_true_eq,decide_eq_false_iff_not,Φf,Φh,Φg,Φj,beq_self_eq_true,Φp,Φq,Φr,Φl,Φm,eq_self,Ψx,Ψm,Ψn,VCops,VQops,Ψv,putVC,VC,VQ,ΦU,ΦV,ΦN,ΦO,ΦE,ΦF,ΦI,List.getElem?_cons_zero,List.getElem?_cons_succ,List.getElem?_nil,List.getElem?_toArray,Ψd,Ψi,ΦP,ΦA,ΦB,ΦT,ΦM,ΦW,ΦJ,ΦQ,ΦR,ΦX,ΦG,ΦH,ΦZ,ΦC,ΦD,Ψa,ΦK,Ψj,ΦS,Ψb,Ψe,Ψf,Ψg,Ψh,Ψo,exists_eq_left,exists_eq_left',exists_const,Ψs,Ψp,Ψq,fa_ptr,Ψu,Ψl,Ψw,Ψc,Ψr,Ψt,Ψk,T.elA_24,T.lay_24,T.szA_24,T.zr_24,Tryd.underlying24,ld_ptr,loadVC,loadN,T.szA_3,T.zr_3,Tryd.underlying3,bin_gtr,pick_bool,hP,h9_1,h9_26]) | fail)
            all_goals
              refine hK9 () _ (some (bx, .cells #[.int .i64 l, .int .i64 c, .bool o, .int .i64 g] 24 (0, 0)) :: L) _ (by first | exact Less.refl _ | exact Less.drop _ _ | exact Less.drops (Less.drop _ _) | exact Less.drops (Less.drops (Less.drop _ _)) | exact Less.drops (Less.drops (Less.drops (Less.drop _ _))) | exact Less.drops (Less.drops (Less.drops (Less.drops (Less.drop _ _))))) ?_
              try dsimp only
              refine ⟨?_, ?_, ?_, ?_⟩
              · simp (maxSteps := 1000000) only [ΦY,Φy,Φz,ΦL,ev,Φi,Φv,Φs,Φt,Φx,Φw,Φd,Φn,reduceIte,reduceCtorEq,if_true,if_false,Φo,Φk,Φa,Φb,true_and,and_true,false_and,and_false,true_implies,forall_const,false_implies,ne_eq,not_true_eq_false,not_false_eq_true,decide_true,decide_false,Φu,and_self,true_or,or_true,dite_true,dite_false,Φe,Φc,decide_eq_true_eq,decide_eq_false_iff_not,Φf,Φh,Φg,Φj,beq_self_eq_true,Φp,Φq,Φr,Φl,Φm,eq_self,hP,h9_1,h9_26]
                first | done | exact congrArg _ (decide_eq_decide.2 (by omega)) | exact congrArg _ (decide_eq_true (by omega)).symm | exact congrArg _ (decide_eq_false (by omega)).symm
              · simp (maxSteps := 1000000) only [ΦY,Φy,Φz,ΦL,ev,Φi,Φv,Φs,Φt,Φx,Φw,Φd,Φn,reduceIte,reduceCtorEq,if_true,if_false,Φo,Φk,Φa,Φb,true_and,and_true,false_and,and_false,true_implies,forall_const,false_implies,ne_eq,not_true_eq_false,not_false_eq_true,decide_true,decide_false,Φu,and_self,true_or,or_true,dite_true,dite_false,Φe,Φc,decide_eq_true_eq,decide_eq_false_iff_not,Φf,Φh,Φg,Φj,beq_self_eq_true,Φp,Φq,Φr,Φl,Φm,eq_self,hP,h9_1,h9_26]
              · rfl
              · trivial
          · intro ss T10 L10 hI
            simp only [h9_1] at hI 
            obtain ⟨h10_31, h10_1, hL10, hinv⟩ := hI
            replace hL10 := hL10.symm
            subst hL10
            clear h9_1 h9_26 T9
            refine RX.done ?_
            simp (maxSteps := 1000000) only [ΦY,Φy,Φz,ΦL,ev,Φi,Φv,Φs,Φt,Φx,Φw,Φd,Φn,reduceIte,reduceCtorEq,if_true,if_false,Φo,Φk,Φa,Φb,true_and,and_true,false_and,and_false,true_implies,forall_const,false_implies,ne_eq,not_true_eq_false,not_false_eq_true,decide_true,decide_false,Φu,and_self,true_or,or_true,dite_true,dite_false,Φe,Φc,decide_eq_true_eq,decide_eq_false_iff_not,Φf,Φh,Φg,Φj,beq_self_eq_true,Φp,Φq,Φr,Φl,Φm,eq_self,Ψx,Ψm,Ψn,VCops,VQops,Ψv,putVC,VC,VQ,ΦU,ΦV,ΦN,ΦO,ΦE,ΦF,ΦI,List.getElem?_cons_zero,List.getElem?_cons_succ,List.getElem?_nil,List.getElem?_toArray,Ψd,Ψi,ΦP,ΦA,ΦB,ΦT,ΦM,ΦW,ΦJ,ΦQ,ΦR,ΦX,ΦG,ΦH,ΦZ,ΦC,ΦD,Ψa,ΦK,Ψj,ΦS,Ψb,Ψe,Ψf,Ψg,Ψh,Ψo,exists_eq_left,exists_eq_left',exists_const,Ψs,Ψp,Ψq,hP,h10_31,h10_1]
            refine hK3 _ _ ?_
            try clear hK3 K3
            refine SX.cond_k fun X10 Y10 hX10 hY10 => ?_
            simp (maxSteps := 1000000) only [ΦY,Φy,Φz,ΦL,ev,Φi,Φv,Φs,Φt,Φx,Φw,Φd,Φn,reduceIte,reduceCtorEq,if_true,if_false,Φo,Φk,Φa,Φb,true_and,and_true,false_and,and_false,true_implies,forall_const,false_implies,ne_eq,not_true_eq_false,not_false_eq_true,decide_true,decide_false,Φu,and_self,true_or,or_true,dite_true,dite_false,Φe,Φc,decide_eq_true_eq,decide_eq_false_iff_not,Φf,Φh,Φg,Φj,beq_self_eq_true,Φp,Φq,Φr,Φl,Φm,eq_self,hP,h10_31,h10_1,condVC]
            refine ⟨fun hc31 => hX10 ?_, fun hc31 => hY10 ?_⟩
            · clear hX10 hY10 X10 Y10
              have hn : okB l c g = false := decide_eq_false (by omega)
              refine SX.seq_k fun K11 hK11 => ?_
              refine SX.region ?_
              simp (maxSteps := 1000000) only [ΦY,Φy,Φz,ΦL,ev,Φi,Φv,Φs,Φt,Φx,Φw,Φd,Φn,reduceIte,reduceCtorEq,if_true,if_false,Φo,Φk,Φa,Φb,true_and,and_true,false_and,and_false,true_implies,forall_const,false_implies,ne_eq,not_true_eq_false,not_false_eq_true,decide_true,decide_false,Φu,and_self,true_or,or_true,dite_true,dite_false,Φe,Φc,decide_eq_true_eq,decide_eq_false_iff_not,Φf,Φh,Φg,Φj,beq_self_eq_true,Φp,Φq,Φr,Φl,Φm,eq_self,Ψx,Ψm,Ψn,VCops,VQops,Ψv,putVC,VC,VQ,ΦU,ΦV,ΦN,ΦO,ΦE,ΦF,ΦI,List.getElem?_cons_zero,List.getElem?_cons_succ,List.getElem?_nil,List.getElem?_toArray,Ψd,Ψi,ΦP,ΦA,ΦB,ΦT,ΦM,ΦW,ΦJ,ΦQ,ΦR,ΦX,ΦG,ΦH,ΦZ,ΦC,ΦD,Ψa,ΦK,Ψj,ΦS,Ψb,Ψe,Ψf,Ψg,Ψh,Ψo,exists_eq_left,exists_eq_left',exists_const,Ψs,Ψp,Ψq,hP,h10_31,h10_1]
              refine hK11 _ _ ?_
              try clear hK11 K11
              refine SX.ret ?_
              simp only [Φi, Φv, Φs, Φt, Φx, Φw, Φd, if_true, if_false, reduceIte, retQ_ret]
              try simp only [res0,res1,res2,res3,ΦY,Φy,Φz,ΦL,ev,Φi,Φv,Φs,Φt,Φx,Φw,Φd,Φn,reduceIte,reduceCtorEq,if_true,if_false,Φo,Φk,Φa,Φb,true_and,and_true,false_and,and_false,true_implies,forall_const,false_implies,ne_eq,not_true_eq_false,not_false_eq_true,decide_true,decide_false,Φu,and_self,true_or,or_true,dite_true,dite_false,Φe,Φc,decide_eq_true_eq,decide_eq_false_iff_not,Φf,Φh,Φg,Φj,beq_self_eq_true,Φp,Φq,Φr,Φl,Φm,eq_self,hP,h10_31,h10_1]
              refine ⟨_, L, (by first | exact Less.refl _ | exact Less.drop _ _ | exact Less.drops (Less.drop _ _) | exact Less.drops (Less.drops (Less.drop _ _)) | exact Less.drops (Less.drops (Less.drops (Less.drop _ _))) | exact Less.drops (Less.drops (Less.drops (Less.drops (Less.drop _ _))))), rfl, ?_, rfl⟩
              rw [chk, hn]; rfl
            · clear hX10 hY10 X10 Y10
              refine SX.skip ?_
              simp only [Φi, Φv, Φs, Φt, Φx, Φw, Φd, if_true, if_false, reduceIte]
              refine hK2 _ _ ?_
              try clear hK2 K2
              refine SX.seq_k fun K12 hK12 => ?_
              refine SX.region ?_
              simp (maxSteps := 1000000) only [ΦY,Φy,Φz,ΦL,ev,Φi,Φv,Φs,Φt,Φx,Φw,Φd,Φn,reduceIte,reduceCtorEq,if_true,if_false,Φo,Φk,Φa,Φb,true_and,and_true,false_and,and_false,true_implies,forall_const,false_implies,ne_eq,not_true_eq_false,not_false_eq_true,decide_true,decide_false,Φu,and_self,true_or,or_true,dite_true,dite_false,Φe,Φc,decide_eq_true_eq,decide_eq_false_iff_not,Φf,Φh,Φg,Φj,beq_self_eq_true,Φp,Φq,Φr,Φl,Φm,eq_self,Ψx,Ψm,Ψn,VCops,VQops,Ψv,putVC,VC,VQ,ΦU,ΦV,ΦN,ΦO,ΦE,ΦF,ΦI,List.getElem?_cons_zero,List.getElem?_cons_succ,List.getElem?_nil,List.getElem?_toArray,Ψd,Ψi,ΦP,ΦA,ΦB,ΦT,ΦM,ΦW,ΦJ,ΦQ,ΦR,ΦX,ΦG,ΦH,ΦZ,ΦC,ΦD,Ψa,ΦK,Ψj,ΦS,Ψb,Ψe,Ψf,Ψg,Ψh,Ψo,exists_eq_left,exists_eq_left',exists_const,Ψs,Ψp,Ψq,hP,h10_31,h10_1]
              refine hK12 _ _ ?_
              try clear hK12 K12
              refine SX.live [1, 3] (fun T11 hT11 => ?_)
              simp only [ΨH,forall_mem_nil',ΦY,Φy,Φz,ΦL,ev,Φi,Φv,Φs,Φt,Φx,Φw,Φd,Φn,reduceIte,reduceCtorEq,if_true,if_false,Φo,Φk,Φa,Φb,true_and,and_true,false_and,and_false,true_implies,forall_const,false_implies,ne_eq,not_true_eq_false,not_false_eq_true,decide_true,decide_false,Φu,and_self,true_or,or_true,dite_true,dite_false,Φe,Φc,decide_eq_true_eq,decide_eq_false_iff_not,Φf,Φh,Φg,Φj,beq_self_eq_true,Φp,Φq,Φr,Φl,Φm,eq_self,hP,h10_31,h10_1] at hT11
              obtain ⟨h11_1, h11_3⟩ := hT11
              clear h10_31 h10_1 T10
              refine SX.join (fun (ss : (Int)) T L' => (fun (k : Int) => T 3 = .int .i64 k ∧ T 1 = T11 1 ∧ L' = some (bx, .cells #[.int .i64 l, .int .i64 c, .bool o, .int .i64 g] 24 (0, 0)) :: L ∧ ((80 ≤ l ∧ l ≤ 207 ∧ 2 < c → k = c - 2) ∧ (¬ (80 ≤ l ∧ l ≤ 207 ∧ 2 < c) → k = 0))) (ss)) (fun K13 hK13 => ?_) ?_
              · simp only [h11_1] at hK13
                refine SX.seq_k fun K14 hK14 => ?_
                refine SX.region_x ?_
                refine RX.live [1, 3] (fun T12 hT12 => ?_)
                simp only [ΨH,forall_mem_nil',ΦY,Φy,Φz,ΦL,ev,Φi,Φv,Φs,Φt,Φx,Φw,Φd,Φn,reduceIte,reduceCtorEq,if_true,if_false,Φo,Φk,Φa,Φb,true_and,and_true,false_and,and_false,true_implies,forall_const,false_implies,ne_eq,not_true_eq_false,not_false_eq_true,decide_true,decide_false,Φu,and_self,true_or,or_true,dite_true,dite_false,Φe,Φc,decide_eq_true_eq,decide_eq_false_iff_not,Φf,Φh,Φg,Φj,beq_self_eq_true,Φp,Φq,Φr,Φl,Φm,eq_self,hP,h11_1,h11_3] at hT12
                obtain ⟨h12_1, h12_3⟩ := hT12
                clear h11_1 h11_3 T11
                refine RX.join 8 (fun (ss : Unit) T L' => T 39 = .bool (decide (80 ≤ l ∧ l ≤ 207 ∧ 2 < c)) ∧ T 1 = T12 1 ∧ T 3 = T12 3 ∧ L' = some (bx, .cells #[.int .i64 l, .int .i64 c, .bool o, .int .i64 g] 24 (0, 0)) :: L ∧ (True)) (fun K15 hK15 => ?_) ?_
                · simp only [h12_1, h12_3] at hK15
                  refine VCops_cut 4 fun K16 hK16 => ?_
                  simp (maxSteps := 1000000) only [ΦY,Φy,Φz,ΦL,ev,Φi,Φv,Φs,Φt,Φx,Φw,Φd,Φn,reduceIte,reduceCtorEq,if_true,if_false,Φo,Φk,Φa,Φb,true_and,and_true,false_and,and_false,true_implies,forall_const,false_implies,ne_eq,not_true_eq_false,not_false_eq_true,decide_true,decide_false,Φu,and_self,true_or,or_true,dite_true,dite_false,Φe,Φc,decide_eq_true_eq,decide_eq_false_iff_not,Φf,Φh,Φg,Φj,beq_self_eq_true,Φp,Φq,Φr,Φl,Φm,eq_self,Ψx,Ψm,Ψn,VCops,VQops,Ψv,putVC,VC,VQ,ΦU,ΦV,ΦN,ΦO,ΦE,ΦF,ΦI,List.getElem?_cons_zero,List.getElem?_cons_succ,List.getElem?_nil,List.getElem?_toArray,Ψd,Ψi,ΦP,ΦA,ΦB,ΦT,ΦM,ΦW,ΦJ,ΦQ,ΦR,ΦX,ΦG,ΦH,ΦZ,ΦC,ΦD,Ψa,ΦK,Ψj,ΦS,Ψb,Ψe,Ψf,Ψg,Ψh,Ψo,exists_eq_left,exists_eq_left',exists_const,Ψs,Ψp,Ψq,fa_ptr,Ψu,Ψl,Ψw,Ψc,Ψr,Ψt,Ψk,T.elA_24,T.lay_24,T.szA_24,T.zr_24,Tryd.underlying24,ld_ptr,loadVC,loadN,T.szA_3,T.zr_3,Tryd.underlying3,qcall_f,call_f,len_slice,len_str,cap_slice,min_int,max_int,T.callable_49,hP,h12_1,h12_3]
                  repeat' (first | refine iteB (fun hg => ?_) (fun hg => ?_) | refine iteI (fun hg => ?_) (fun hg => ?_) | ((first | (refine SCall.mono (refShown_spec hP) ?_; rintro v_ L_ ⟨hv_, hL_⟩; rw [hv_, hL_]; clear hv_ hL_ v_ L_) | refine And.intro (by omega) ?_ | refine ⟨_, Cell.at 0 rfl rfl, ?_⟩ | fail); try simp (maxSteps := 1000000) only [ΦY,Φy,Φz,ΦL,ev,Φi,Φv,Φs,Φt,Φx,Φw,Φd,Φn,reduceIte,reduceCtorEq,if_true,if_false,Φo,Φk,Φa,Φb,true_and,and_true,false_and,and_false,true_implies,forall_const,false_implies,ne_eq,not_true_eq_false,not_false_eq_true,decide_true,decide_false,Φu,and_self,true_or,or_true,dite_true,dite_false,Φe,Φc,decide_eq_true_eq,decide_eq_false_iff_not,Φf,Φh,Φg,Φj,beq_self_eq_true,Φp,Φq,Φr,Φl,Φm,eq_self,Ψx,Ψm,Ψn,VCops,VQops,Ψv,putVC,VC,VQ,ΦU,ΦV,ΦN,ΦO,ΦE,ΦF,ΦI,List.getElem?_cons_zero,List.getElem?_cons_succ,List.getElem?_nil,List.getElem?_toArray,Ψd,Ψi,ΦP,ΦA,ΦB,ΦT,ΦM,ΦW,ΦJ,ΦQ,ΦR,ΦX,ΦG,ΦH,ΦZ,ΦC,ΦD,Ψa,ΦK,Ψj,ΦS,Ψb,Ψe,Ψf,Ψg,Ψh,Ψo,exists_eq_left,exists_eq_left',exists_const,Ψs,Ψp,Ψq,fa_ptr,Ψu,Ψl,Ψw,Ψc,Ψr,Ψt,Ψk,T.elA_24,T.lay_24,T.szA_24,T.zr_24,Tryd.underlying24,ld_ptr,loadVC,loadN,T.szA_3,T.zr_3,Tryd.underlying3,qcall_f,call_f,len_slice,len_str,cap_slice,min_int,max_int,T.callable_49,hP,h12_1,h12_3]) | fail)
                  all_goals (refine hK16 _ _ ?_; clear hK16 K16)
                  all_goals
                    try simp (maxSteps := 1000000) only [ΦY,Φy,Φz,ΦL,ev,Φi,Φv,Φs,Φt,Φx,Φw,Φd,Φn,reduceIte,reduceCtorEq,if_true,if_false,Φo,Φk,Φa,Φb,true_and,and_true,false_and,and_false,true_implies,forall_const,false_implies,ne_eq,not_true_eq_false,not_false_eq_true,decide_true,decide_false,Φu,and_self,true_or,or_true,dite_true,dite_false,Φe,Φc,decide_eq_true_eq,decide_eq_false_iff_not,Φf,Φh,Φg,Φj,beq_self_eq_true,Φp,Φq,Φr,Φl,Φm,eq_self,Ψx,Ψm,Ψn,VCops,VQops,Ψv,putVC,VC,VQ,ΦU,ΦV,ΦN,ΦO,ΦE,ΦF,ΦI,List.getElem?_cons_zero,List.getElem?_cons_succ,List.getElem?_nil,List.getElem?_toArray,Ψd,Ψi,ΦP,ΦA,ΦB,ΦT,ΦM,ΦW,ΦJ,ΦQ,ΦR,ΦX,ΦG,ΦH,ΦZ,ΦC,ΦD,Ψa,ΦK,Ψj,ΦS,Ψb,Ψe,Ψf,Ψg,Ψh,Ψo,exists_eq_left,exists_eq_left',exists_const,Ψs,Ψp,Ψq,fa_ptr,Ψu,Ψl,Ψw,Ψc,Ψr,Ψt,Ψk,T.elA_24,T.lay_24,T.szA_24,T.zr_24,Tryd.underlying24,ld_ptr,loadVC,loadN,T.szA_3,T.zr_3,Tryd.underlying3,bin_gtr,pick_bool,hP,h12_1,h12_3]
                    repeat' (first | refine iteB (fun hg => ?_) (fun hg => ?_) | refine iteI (fun hg => ?_) (fun hg => ?_) | ((first | (refine SCall.mono (refShown_spec hP) ?_; rintro v_ L_ ⟨hv_, hL_⟩; rw [hv_, hL_]; clear hv_ hL_ v_ L_) | refine And.intro (by omega) ?_ | refine ⟨_, Cell.at 0 rfl rfl, ?_⟩ | fail); try simp (maxSteps := 1000000) only [ΦY,Φy,Φz,ΦL,ev,Φi,Φv,Φs,Φt,Φx,Φw,Φd,Φn,reduceIte,reduceCtorEq,if_true,if_false,Φo,Φk,Φa,Φb,true_and,and_true,false_and,and_false,true_implies,forall_const,false_implies,ne_eq,not_true_eq_false,not_false_eq_true,decide_true,decide_false,Φu,and_self,true_or,or_true,dite_true,dite_false,Φe,Φc,decide_eq_true_eq,decide_eq_false_iff_not,Φf,Φh,Φg,Φj,beq_self_eq_true,Φp,Φq,Φr,Φl,Φm,eq_self,Ψx,Ψm,Ψn,VCops,VQops,Ψv,putVC,VC,VQ,ΦU,ΦV,ΦN,ΦO,ΦE,ΦF,ΦI,List.getElem?_cons_zero,List.getElem?_cons_succ,List.getElem?_nil,List.getElem?_toArray,Ψd,Ψi,ΦP,ΦA,ΦB,ΦT,ΦM,ΦW,ΦJ,ΦQ,ΦR,ΦX,ΦG,ΦH,ΦZ,ΦC,ΦD,Ψa,ΦK,Ψj,ΦS,Ψb,Ψe,Ψf,Ψg,Ψh,Ψo,exists_eq_left,exists_eq_left',exists_const,Ψs,Ψp,Ψq,fa_ptr,Ψu,Ψl,Ψw,Ψc,Ψr,Ψt,Ψk,T.elA_24,T.lay_24,T.szA_24,T.zr_24,Tryd.underlying24,ld_ptr,loadVC,loadN,T.szA_3,T.zr_3,Tryd.underlying3,bin_gtr,pick_bool,hP,h12_1,h12_3]) | fail)
                  all_goals
                    refine hK15 () _ (some (bx, .cells #[.int .i64 l, .int .i64 c, .bool o, .int .i64 g] 24 (0, 0)) :: L) _ (by first | exact Less.refl _ | exact Less.drop _ _ | exact Less.drops (Less.drop _ _) | exact Less.drops (Less.drops (Less.drop _ _)) | exact Less.drops (Less.drops (Less.drops (Less.drop _ _))) | exact Less.drops (Less.drops (Less.drops (Less.drops (Less.drop _ _))))) ?_
                    try dsimp only
                    refine ⟨?_, ?_, ?_, ?_, ?_⟩
                    · simp (maxSteps := 1000000) only [ΦY,Φy,Φz,ΦL,ev,Φi,Φv,Φs,Φt,Φx,Φw,Φd,Φn,reduceIte,reduceCtorEq,if_true,if_false,Φo,Φk,Φa,Φb,true_and,and_true,false_and,and_false,true_implies,forall_const,false_implies,ne_eq,not_true_eq_false,not_false_eq_true,decide_true,decide_false,Φu,and_self,true_or,or_true,dite_true,dite_false,Φe,Φc,decide_eq_true_eq,decide_eq_false_iff_not,Φf,Φh,Φg,Φj,beq_self_eq_true,Φp,Φq,Φr,Φl,Φm,eq_self,hP,h12_1,h12_3]
                      first | done | exact congrArg _ (decide_eq_decide.2 (by omega)) | exact congrArg _ (decide_eq_true (by omega)).symm | exact congrArg _ (decide_eq_false (by omega)).symm
                    · simp (maxSteps := 1000000) only [ΦY,Φy,Φz,ΦL,ev,Φi,Φv,Φs,Φt,Φx,Φw,Φd,Φn,reduceIte,reduceCtorEq,if_true,if_false,Φo,Φk,Φa,Φb,true_and,and_true,false_and,and_false,true_implies,forall_const,false_implies,ne_eq,not_true_eq_false,not_false_eq_true,decide_true,decide_false,Φu,and_self,true_or,or_true,dite_true,dite_false,Φe,Φc,decide_eq_true_eq,decide_eq_false_iff_not,Φf,Φh,Φg,Φj,beq_self_eq_true,Φp,Φq,Φr,Φl,Φm,eq_self,hP,h12_1,h12_3]
                    · simp (maxSteps := 1000000) only [ΦY,Φy,Φz,ΦL,ev,Φi,Φv,Φs,Φt,Φx,Φw,Φd,Φn,reduceIte,reduceCtorEq,if_true,if_false,Φo,Φk,Φa,Φb,true_and,and_true,false_and,and_false,true_implies,forall_const,false_implies,ne_eq,not_true_eq_false,not_false_eq_true,decide_true,decide_false,Φu,and_self,true_or,or_true,dite_true,dite_false,Φe,Φc,decide_eq_true_eq,decide_eq_false_iff_not,Φf,Φh,Φg,Φj,beq_self_eq_true,Φp,Φq,Φr,Φl,Φm,eq_self,hP,h12_1,h12_3]
                    · rfl
                    · trivial
                · intro ss T13 L13 hI
                  simp only [h12_1, h12_3] at hI 
                  obtain ⟨h13_39, h13_1, h13_3, hL13, hinv⟩ := hI
                  replace hL13 := hL13.symm
                  subst hL13
                  clear h12_1 h12_3 T12
                  refine RX.done ?_
                  simp (maxSteps := 1000000) only [ΦY,Φy,Φz,ΦL,ev,Φi,Φv,Φs,Φt,Φx,Φw,Φd,Φn,reduceIte,reduceCtorEq,if_true,if_false,Φo,Φk,Φa,Φb,true_and,and_true,false_and,and_false,true_implies,forall_const,false_implies,ne_eq,not_true_eq_false,not_false_eq_true,decide_true,decide_false,Φu,and_self,true_or,or_true,dite_true,dite_false,Φe,Φc,decide_eq_true_eq,decide_eq_false_iff_not,Φf,Φh,Φg,Φj,beq_self_eq_true,Φp,Φq,Φr,Φl,Φm,eq_self,Ψx,Ψm,Ψn,VCops,VQops,Ψv,putVC,VC,VQ,ΦU,ΦV,ΦN,ΦO,ΦE,ΦF,ΦI,List.getElem?_cons_zero,List.getElem?_cons_succ,List.getElem?_nil,List.getElem?_toArray,Ψd,Ψi,ΦP,ΦA,ΦB,ΦT,ΦM,ΦW,ΦJ,ΦQ,ΦR,ΦX,ΦG,ΦH,ΦZ,ΦC,ΦD,Ψa,ΦK,Ψj,ΦS,Ψb,Ψe,Ψf,Ψg,Ψh,Ψo,exists_eq_left,exists_eq_left',exists_const,Ψs,Ψp,Ψq,hP,h13_39,h13_1,h13_3]
                  refine hK14 _ _ ?_
                  try clear hK14 K14
                  refine SX.cond_k fun X17 Y17 hX17 hY17 => ?_
                  simp (maxSteps := 1000000) only [ΦY,Φy,Φz,ΦL,ev,Φi,Φv,Φs,Φt,Φx,Φw,Φd,Φn,reduceIte,reduceCtorEq,if_true,if_false,Φo,Φk,Φa,Φb,true_and,and_true,false_and,and_false,true_implies,forall_const,false_implies,ne_eq,not_true_eq_false,not_false_eq_true,decide_true,decide_false,Φu,and_self,true_or,or_true,dite_true,dite_false,Φe,Φc,decide_eq_true_eq,decide_eq_false_iff_not,Φf,Φh,Φg,Φj,beq_self_eq_true,Φp,Φq,Φr,Φl,Φm,eq_self,hP,h13_39,h13_1,h13_3,condVC]
                  refine ⟨fun hc39 => hX17 ?_, fun hc39 => hY17 ?_⟩
                  · clear hX17 hY17 X17 Y17
                    refine SX.region ?_
                    simp (maxSteps := 1000000) only [ΦY,Φy,Φz,ΦL,ev,Φi,Φv,Φs,Φt,Φx,Φw,Φd,Φn,reduceIte,reduceCtorEq,if_true,if_false,Φo,Φk,Φa,Φb,true_and,and_true,false_and,and_false,true_implies,forall_const,false_implies,ne_eq,not_true_eq_false,not_false_eq_true,decide_true,decide_false,Φu,and_self,true_or,or_true,dite_true,dite_false,Φe,Φc,decide_eq_true_eq,decide_eq_false_iff_not,Φf,Φh,Φg,Φj,beq_self_eq_true,Φp,Φq,Φr,Φl,Φm,eq_self,Ψx,Ψm,Ψn,VCops,VQops,Ψv,putVC,VC,VQ,ΦU,ΦV,ΦN,ΦO,ΦE,ΦF,ΦI,List.getElem?_cons_zero,List.getElem?_cons_succ,List.getElem?_nil,List.getElem?_toArray,Ψd,Ψi,ΦP,ΦA,ΦB,ΦT,ΦM,ΦW,ΦJ,ΦQ,ΦR,ΦX,ΦG,ΦH,ΦZ,ΦC,ΦD,Ψa,ΦK,Ψj,ΦS,Ψb,Ψe,Ψf,Ψg,Ψh,Ψo,exists_eq_left,exists_eq_left',exists_const,Ψs,Ψp,Ψq,fa_ptr,Ψu,Ψl,Ψw,Ψc,Ψr,Ψt,Ψk,T.elA_24,T.lay_24,T.szA_24,T.zr_24,Tryd.underlying24,ld_ptr,loadVC,loadN,T.szA_3,T.zr_3,Tryd.underlying3,bin_sub,hP,h13_39,h13_1,h13_3,(show IntKind.i64.wrap (c - 2) = c - 2 from w64 (by omega))]
                    refine ⟨_, Cell.at 0 rfl rfl, ?_⟩
                    try simp (maxSteps := 1000000) only [ΦY,Φy,Φz,ΦL,ev,Φi,Φv,Φs,Φt,Φx,Φw,Φd,Φn,reduceIte,reduceCtorEq,if_true,if_false,Φo,Φk,Φa,Φb,true_and,and_true,false_and,and_false,true_implies,forall_const,false_implies,ne_eq,not_true_eq_false,not_false_eq_true,decide_true,decide_false,Φu,and_self,true_or,or_true,dite_true,dite_false,Φe,Φc,decide_eq_true_eq,decide_eq_false_iff_not,Φf,Φh,Φg,Φj,beq_self_eq_true,Φp,Φq,Φr,Φl,Φm,eq_self,Ψx,Ψm,Ψn,VCops,VQops,Ψv,putVC,VC,VQ,ΦU,ΦV,ΦN,ΦO,ΦE,ΦF,ΦI,List.getElem?_cons_zero,List.getElem?_cons_succ,List.getElem?_nil,List.getElem?_toArray,Ψd,Ψi,ΦP,ΦA,ΦB,ΦT,ΦM,ΦW,ΦJ,ΦQ,ΦR,ΦX,ΦG,ΦH,ΦZ,ΦC,ΦD,Ψa,ΦK,Ψj,ΦS,Ψb,Ψe,Ψf,Ψg,Ψh,Ψo,exists_eq_left,exists_eq_left',exists_const,Ψs,Ψp,Ψq,fa_ptr,Ψu,Ψl,Ψw,Ψc,Ψr,Ψt,Ψk,T.elA_24,T.lay_24,T.szA_24,T.zr_24,Tryd.underlying24,ld_ptr,loadVC,loadN,T.szA_3,T.zr_3,Tryd.underlying3,bin_sub,hP,h13_39,h13_1,h13_3,(show IntKind.i64.wrap (c - 2) = c - 2 from w64 (by omega))]
                    refine hK13 (c - 2) _ (some (bx, .cells #[.int .i64 l, .int .i64 c, .bool o, .int .i64 g] 24 (0, 0)) :: L) _ (by first | exact Less.refl _ | exact Less.drop _ _ | exact Less.drops (Less.drop _ _) | exact Less.drops (Less.drops (Less.drop _ _)) | exact Less.drops (Less.drops (Less.drops (Less.drop _ _))) | exact Less.drops (Less.drops (Less.drops (Less.drops (Less.drop _ _))))) ?_
                    try dsimp only
                    refine ⟨?_, ?_, ?_, ?_⟩
                    · simp (maxSteps := 1000000) only [ΦY,Φy,Φz,ΦL,ev,Φi,Φv,Φs,Φt,Φx,Φw,Φd,Φn,reduceIte,reduceCtorEq,if_true,if_false,Φo,Φk,Φa,Φb,true_and,and_true,false_and,and_false,true_implies,forall_const,false_implies,ne_eq,not_true_eq_false,not_false_eq_true,decide_true,decide_false,Φu,and_self,true_or,or_true,dite_true,dite_false,Φe,Φc,decide_eq_true_eq,decide_eq_false_iff_not,Φf,Φh,Φg,Φj,beq_self_eq_true,Φp,Φq,Φr,Φl,Φm,eq_self,hP,h13_39,h13_1,h13_3]
                      first | done | rfl | skip
                    · simp (maxSteps := 1000000) only [ΦY,Φy,Φz,ΦL,ev,Φi,Φv,Φs,Φt,Φx,Φw,Φd,Φn,reduceIte,reduceCtorEq,if_true,if_false,Φo,Φk,Φa,Φb,true_and,and_true,false_and,and_false,true_implies,forall_const,false_implies,ne_eq,not_true_eq_false,not_false_eq_true,decide_true,decide_false,Φu,and_self,true_or,or_true,dite_true,dite_false,Φe,Φc,decide_eq_true_eq,decide_eq_false_iff_not,Φf,Φh,Φg,Φj,beq_self_eq_true,Φp,Φq,Φr,Φl,Φm,eq_self,hP,h13_39,h13_1,h13_3]
                    · rfl
                    · exact ⟨fun _ => rfl, fun h => absurd hc39 h⟩
                  · clear hX17 hY17 X17 Y17
                    refine SX.skip ?_
                    simp only [Φi, Φv, Φs, Φt, Φx, Φw, Φd, if_true, if_false, reduceIte]
                    refine hK13 0 _ (some (bx, .cells #[.int .i64 l, .int .i64 c, .bool o, .int .i64 g] 24 (0, 0)) :: L) _ (by first | exact Less.refl _ | exact Less.drop _ _ | exact Less.drops (Less.drop _ _) | exact Less.drops (Less.drops (Less.drop _ _)) | exact Less.drops (Less.drops (Less.drops (Less.drop _ _))) | exact Less.drops (Less.drops (Less.drops (Less.drops (Less.drop _ _))))) ?_
                    try dsimp only
                    refine ⟨?_, ?_, ?_, ?_⟩
                    · simp (maxSteps := 1000000) only [ΦY,Φy,Φz,ΦL,ev,Φi,Φv,Φs,Φt,Φx,Φw,Φd,Φn,reduceIte,reduceCtorEq,if_true,if_false,Φo,Φk,Φa,Φb,true_and,and_true,false_and,and_false,true_implies,forall_const,false_implies,ne_eq,not_true_eq_false,not_false_eq_true,decide_true,decide_false,Φu,and_self,true_or,or_true,dite_true,dite_false,Φe,Φc,decide_eq_true_eq,decide_eq_false_iff_not,Φf,Φh,Φg,Φj,beq_self_eq_true,Φp,Φq,Φr,Φl,Φm,eq_self,hP,h13_39,h13_1,h13_3]
                      first | done | rfl | skip
                    · simp (maxSteps := 1000000) only [ΦY,Φy,Φz,ΦL,ev,Φi,Φv,Φs,Φt,Φx,Φw,Φd,Φn,reduceIte,reduceCtorEq,if_true,if_false,Φo,Φk,Φa,Φb,true_and,and_true,false_and,and_false,true_implies,forall_const,false_implies,ne_eq,not_true_eq_false,not_false_eq_true,decide_true,decide_false,Φu,and_self,true_or,or_true,dite_true,dite_false,Φe,Φc,decide_eq_true_eq,decide_eq_false_iff_not,Φf,Φh,Φg,Φj,beq_self_eq_true,Φp,Φq,Φr,Φl,Φm,eq_self,hP,h13_39,h13_1,h13_3]
                    · rfl
                    · exact ⟨fun h => absurd h hc39, fun _ => rfl⟩
              · intro k T14 L14 hI
                try dsimp only at hI 
                simp only [h11_1] at hI 
                obtain ⟨h14_3, h14_1, hL14, ⟨hk1, hk2⟩⟩ := hI
                replace hL14 := hL14.symm
                subst hL14
                clear h11_1 h11_3 T11
                refine SX.seq_k fun K18 hK18 => ?_
                refine SX.seq_k fun K19 hK19 => ?_
                refine SX.region ?_
                simp (maxSteps := 1000000) only [ΦY,Φy,Φz,ΦL,ev,Φi,Φv,Φs,Φt,Φx,Φw,Φd,Φn,reduceIte,reduceCtorEq,if_true,if_false,Φo,Φk,Φa,Φb,true_and,and_true,false_and,and_false,true_implies,forall_const,false_implies,ne_eq,not_true_eq_false,not_false_eq_true,decide_true,decide_false,Φu,and_self,true_or,or_true,dite_true,dite_false,Φe,Φc,decide_eq_true_eq,decide_eq_false_iff_not,Φf,Φh,Φg,Φj,beq_self_eq_true,Φp,Φq,Φr,Φl,Φm,eq_self,Ψx,Ψm,Ψn,VCops,VQops,Ψv,putVC,VC,VQ,ΦU,ΦV,ΦN,ΦO,ΦE,ΦF,ΦI,List.getElem?_cons_zero,List.getElem?_cons_succ,List.getElem?_nil,List.getElem?_toArray,Ψd,Ψi,ΦP,ΦA,ΦB,ΦT,ΦM,ΦW,ΦJ,ΦQ,ΦR,ΦX,ΦG,ΦH,ΦZ,ΦC,ΦD,Ψa,ΦK,Ψj,ΦS,Ψb,Ψe,Ψf,Ψg,Ψh,Ψo,exists_eq_left,exists_eq_left',exists_const,Ψs,Ψp,Ψq,fa_ptr,Ψu,Ψl,Ψw,Ψc,Ψr,Ψt,Ψk,T.elA_24,T.lay_24,T.szA_24,T.zr_24,Tryd.underlying24,ld_ptr,loadVC,loadN,T.szA_3,T.zr_3,Tryd.underlying3,bin_gtr,hP,h14_3,h14_1]
                refine ⟨_, Cell.at 0 rfl rfl, ?_⟩
                try simp (maxSteps := 1000000) only [ΦY,Φy,Φz,ΦL,ev,Φi,Φv,Φs,Φt,Φx,Φw,Φd,Φn,reduceIte,reduceCtorEq,if_true,if_false,Φo,Φk,Φa,Φb,true_and,and_true,false_and,and_false,true_implies,forall_const,false_implies,ne_eq,not_true_eq_false,not_false_eq_true,decide_true,decide_false,Φu,and_self,true_or,or_true,dite_true,dite_false,Φe,Φc,decide_eq_true_eq,decide_eq_false_iff_not,Φf,Φh,Φg,Φj,beq_self_eq_true,Φp,Φq,Φr,Φl,Φm,eq_self,Ψx,Ψm,Ψn,VCops,VQops,Ψv,putVC,VC,VQ,ΦU,ΦV,ΦN,ΦO,ΦE,ΦF,ΦI,List.getElem?_cons_zero,List.getElem?_cons_succ,List.getElem?_nil,List.getElem?_toArray,Ψd,Ψi,ΦP,ΦA,ΦB,ΦT,ΦM,ΦW,ΦJ,ΦQ,ΦR,ΦX,ΦG,ΦH,ΦZ,ΦC,ΦD,Ψa,ΦK,Ψj,ΦS,Ψb,Ψe,Ψf,Ψg,Ψh,Ψo,exists_eq_left,exists_eq_left',exists_const,Ψs,Ψp,Ψq,fa_ptr,Ψu,Ψl,Ψw,Ψc,Ψr,Ψt,Ψk,T.elA_24,T.lay_24,T.szA_24,T.zr_24,Tryd.underlying24,ld_ptr,loadVC,loadN,T.szA_3,T.zr_3,Tryd.underlying3,bin_gtr,hP,h14_3,h14_1]
                refine hK19 _ _ ?_
                try clear hK19 K19
                refine SX.cond_k fun X20 Y20 hX20 hY20 => ?_
                simp (maxSteps := 1000000) only [ΦY,Φy,Φz,ΦL,ev,Φi,Φv,Φs,Φt,Φx,Φw,Φd,Φn,reduceIte,reduceCtorEq,if_true,if_false,Φo,Φk,Φa,Φb,true_and,and_true,false_and,and_false,true_implies,forall_const,false_implies,ne_eq,not_true_eq_false,not_false_eq_true,decide_true,decide_false,Φu,and_self,true_or,or_true,dite_true,dite_false,Φe,Φc,decide_eq_true_eq,decide_eq_false_iff_not,Φf,Φh,Φg,Φj,beq_self_eq_true,Φp,Φq,Φr,Φl,Φm,eq_self,hP,h14_3,h14_1,condVC]
                refine ⟨fun hc46 => hX20 ?_, fun hc46 => hY20 ?_⟩
                · clear hX20 hY20 X20 Y20
                  have hn : okB l c g = false := decide_eq_false (by omega)
                  refine SX.seq_k fun K21 hK21 => ?_
                  refine SX.region ?_
                  simp (maxSteps := 1000000) only [ΦY,Φy,Φz,ΦL,ev,Φi,Φv,Φs,Φt,Φx,Φw,Φd,Φn,reduceIte,reduceCtorEq,if_true,if_false,Φo,Φk,Φa,Φb,true_and,and_true,false_and,and_false,true_implies,forall_const,false_implies,ne_eq,not_true_eq_false,not_false_eq_true,decide_true,decide_false,Φu,and_self,true_or,or_true,dite_true,dite_false,Φe,Φc,decide_eq_true_eq,decide_eq_false_iff_not,Φf,Φh,Φg,Φj,beq_self_eq_true,Φp,Φq,Φr,Φl,Φm,eq_self,Ψx,Ψm,Ψn,VCops,VQops,Ψv,putVC,VC,VQ,ΦU,ΦV,ΦN,ΦO,ΦE,ΦF,ΦI,List.getElem?_cons_zero,List.getElem?_cons_succ,List.getElem?_nil,List.getElem?_toArray,Ψd,Ψi,ΦP,ΦA,ΦB,ΦT,ΦM,ΦW,ΦJ,ΦQ,ΦR,ΦX,ΦG,ΦH,ΦZ,ΦC,ΦD,Ψa,ΦK,Ψj,ΦS,Ψb,Ψe,Ψf,Ψg,Ψh,Ψo,exists_eq_left,exists_eq_left',exists_const,Ψs,Ψp,Ψq,hP,h14_3,h14_1]
                  refine hK21 _ _ ?_
                  try clear hK21 K21
                  refine SX.ret ?_
                  simp only [Φi, Φv, Φs, Φt, Φx, Φw, Φd, if_true, if_false, reduceIte, retQ_ret]
                  try simp only [res0,res1,res2,res3,ΦY,Φy,Φz,ΦL,ev,Φi,Φv,Φs,Φt,Φx,Φw,Φd,Φn,reduceIte,reduceCtorEq,if_true,if_false,Φo,Φk,Φa,Φb,true_and,and_true,false_and,and_false,true_implies,forall_const,false_implies,ne_eq,not_true_eq_false,not_false_eq_true,decide_true,decide_false,Φu,and_self,true_or,or_true,dite_true,dite_false,Φe,Φc,decide_eq_true_eq,decide_eq_false_iff_not,Φf,Φh,Φg,Φj,beq_self_eq_true,Φp,Φq,Φr,Φl,Φm,eq_self,hP,h14_3,h14_1]
                  refine ⟨_, L, (by first | exact Less.refl _ | exact Less.drop _ _ | exact Less.drops (Less.drop _ _) | exact Less.drops (Less.drops (Less.drop _ _)) | exact Less.drops (Less.drops (Less.drops (Less.drop _ _))) | exact Less.drops (Less.drops (Less.drops (Less.drops (Less.drop _ _))))), rfl, ?_, rfl⟩
                  rw [chk, hn]; rfl
                · clear hX20 hY20 X20 Y20
                  have hn : okB l c g = true := okB_of (by omega)
                  refine SX.skip ?_
                  simp only [Φi, Φv, Φs, Φt, Φx, Φw, Φd, if_true, if_false, reduceIte]
                  refine hK18 _ _ ?_
                  try clear hK18 K18
                  refine SX.seq_k fun K22 hK22 => ?_
                  refine SX.region ?_
                  simp (maxSteps := 1000000) only [ΦY,Φy,Φz,ΦL,ev,Φi,Φv,Φs,Φt,Φx,Φw,Φd,Φn,reduceIte,reduceCtorEq,if_true,if_false,Φo,Φk,Φa,Φb,true_and,and_true,false_and,and_false,true_implies,forall_const,false_implies,ne_eq,not_true_eq_false,not_false_eq_true,decide_true,decide_false,Φu,and_self,true_or,or_true,dite_true,dite_false,Φe,Φc,decide_eq_true_eq,decide_eq_false_iff_not,Φf,Φh,Φg,Φj,beq_self_eq_true,Φp,Φq,Φr,Φl,Φm,eq_self,Ψx,Ψm,Ψn,VCops,VQops,Ψv,putVC,VC,VQ,ΦU,ΦV,ΦN,ΦO,ΦE,ΦF,ΦI,List.getElem?_cons_zero,List.getElem?_cons_succ,List.getElem?_nil,List.getElem?_toArray,Ψd,Ψi,ΦP,ΦA,ΦB,ΦT,ΦM,ΦW,ΦJ,ΦQ,ΦR,ΦX,ΦG,ΦH,ΦZ,ΦC,ΦD,Ψa,ΦK,Ψj,ΦS,Ψb,Ψe,Ψf,Ψg,Ψh,Ψo,exists_eq_left,exists_eq_left',exists_const,Ψs,Ψp,Ψq,hP,h14_3,h14_1]
                  refine hK22 _ _ ?_
                  try clear hK22 K22
                  refine SX.ret ?_
                  simp only [Φi, Φv, Φs, Φt, Φx, Φw, Φd, if_true, if_false, reduceIte, retQ_ret]
                  try simp only [res0,res1,res2,res3,ΦY,Φy,Φz,ΦL,ev,Φi,Φv,Φs,Φt,Φx,Φw,Φd,Φn,reduceIte,reduceCtorEq,if_true,if_false,Φo,Φk,Φa,Φb,true_and,and_true,false_and,and_false,true_implies,forall_const,false_implies,ne_eq,not_true_eq_false,not_false_eq_true,decide_true,decide_false,Φu,and_self,true_or,or_true,dite_true,dite_false,Φe,Φc,decide_eq_true_eq,decide_eq_false_iff_not,Φf,Φh,Φg,Φj,beq_self_eq_true,Φp,Φq,Φr,Φl,Φm,eq_self,hP,h14_3,h14_1]
                  refine ⟨_, L, (by first | exact Less.refl _ | exact Less.drop _ _ | exact Less.drops (Less.drop _ _) | exact Less.drops (Less.drops (Less.drop _ _)) | exact Less.drops (Less.drops (Less.drops (Less.drop _ _))) | exact Less.drops (Less.drops (Less.drops (Less.drops (Less.drop _ _))))), rfl, ?_, rfl⟩
                  rw [chk, hn]; rfl
set_option maxHeartbeats 1000000 in
set_option maxRecDepth 100000 in
theorem refWants_spec {Γ : Ctx} (hP : Γ.P = Tryd.prog) {L : Hp} {l c g : Int} {o : Bool} :
    SCall Γ 51 #[(.agg #[.int .i64 l, .int .i64 c, .bool o, .int .i64 g])] L (fun v L' => v = .bool (wB l c o g) ∧ L' = L) := by
  refine SCall.enter (n := 25) (res1 2) (hP ▸ Tryd.func51) rfl rfl (by simp) (res1_ok rfl) ?_
  refine SX.seq_k fun K1 hK1 => ?_
  refine SX.region ?_
  simp (maxSteps := 1000000) only [ΦY,Φy,Φz,ΦL,ev,Φi,Φv,Φs,Φt,Φx,Φw,Φd,Φn,reduceIte,reduceCtorEq,if_true,if_false,Φo,Φk,Φa,Φb,true_and,and_true,false_and,and_false,true_implies,forall_const,false_implies,ne_eq,not_true_eq_false,not_false_eq_true,decide_true,decide_false,Φu,and_self,true_or,or_true,dite_true,dite_false,Φe,Φc,decide_eq_true_eq,decide_eq_false_iff_not,Φf,Φh,Φg,Φj,beq_self_eq_true,Φp,Φq,Φr,Φl,Φm,eq_self,Ψx,Ψm,Ψn,VCops,VQops,Ψv,putVC,VC,VQ,ΦU,ΦV,ΦN,ΦO,ΦE,ΦF,ΦI,List.getElem?_cons_zero,List.getElem?_cons_succ,List.getElem?_nil,List.getElem?_toArray,Ψd,Ψi,ΦP,ΦA,ΦB,ΦT,ΦM,ΦW,ΦJ,ΦQ,ΦR,ΦX,ΦG,ΦH,ΦZ,ΦC,ΦD,Ψa,ΦK,Ψj,ΦS,Ψb,Ψe,Ψf,Ψg,Ψh,Ψo,exists_eq_left,exists_eq_left',exists_const,Ψs,Ψp,Ψq,cells_int,cells_bool,ΨB,Ψz,ΨD,cells_agg,oneB_nil,oneB_cons,one_int,one_bool,one_string,ΨE,one_slice,one_map,one_func,ΨF,ΨC,one_iface,cells_map,cells_func,ΨA,Ψy,ΨG,T.elA_24,T.lay_24,T.szA_24,T.zr_24,Tryd.underlying24,hP]
  intro bx
  refine hK1 _ _ ?_
  try clear hK1 K1
  refine SX.seq_k fun K2 hK2 => ?_
  refine SX.region_x ?_
  refine RX.live [1] (fun T1 hT1 => ?_)
  simp only [ΨH,forall_mem_nil',ΦY,Φy,Φz,ΦL,ev,Φi,Φv,Φs,Φt,Φx,Φw,Φd,Φn,reduceIte,reduceCtorEq,if_true,if_false,Φo,Φk,Φa,Φb,true_and,and_true,false_and,and_false,true_implies,forall_const,false_implies,ne_eq,not_true_eq_false,not_false_eq_true,decide_true,decide_false,Φu,and_self,true_or,or_true,dite_true,dite_false,Φe,Φc,decide_eq_true_eq,decide_eq_false_iff_not,Φf,Φh,Φg,Φj,beq_self_eq_true,Φp,Φq,Φr,Φl,Φm,eq_self,hP] at hT1
  have h1_1 := hT1; clear hT1
  refine RX.join 7 (fun (ss : Unit) T L' => T 9 = .bool (okB l c g && o) ∧ T 1 = T1 1 ∧ L' = some (bx, .cells #[.int .i64 l, .int .i64 c, .bool o, .int .i64 g] 24 (0, 0)) :: L ∧ (True)) (fun K3 hK3 => ?_) ?_
  · simp only [h1_1] at hK3
    simp (maxSteps := 1000000) only [ΦY,Φy,Φz,ΦL,ev,Φi,Φv,Φs,Φt,Φx,Φw,Φd,Φn,reduceIte,reduceCtorEq,if_true,if_false,Φo,Φk,Φa,Φb,true_and,and_true,false_and,and_false,true_implies,forall_const,false_implies,ne_eq,not_true_eq_false,not_false_eq_true,decide_true,decide_false,Φu,and_self,true_or,or_true,dite_true,dite_false,Φe,Φc,decide_eq_true_eq,decide_eq_false_iff_not,Φf,Φh,Φg,Φj,beq_self_eq_true,Φp,Φq,Φr,Φl,Φm,eq_self,Ψx,Ψm,Ψn,VCops,VQops,Ψv,putVC,VC,VQ,ΦU,ΦV,ΦN,ΦO,ΦE,ΦF,ΦI,List.getElem?_cons_zero,List.getElem?_cons_succ,List.getElem?_nil,List.getElem?_toArray,Ψd,Ψi,ΦP,ΦA,ΦB,ΦT,ΦM,ΦW,ΦJ,ΦQ,ΦR,ΦX,ΦG,ΦH,ΦZ,ΦC,ΦD,Ψa,ΦK,Ψj,ΦS,Ψb,Ψe,Ψf,Ψg,Ψh,Ψo,exists_eq_left,exists_eq_left',exists_const,Ψs,Ψp,Ψq,ld_ptr,loadVC,loadN,Ψu,Ψl,Ψw,Ψc,Ψr,Ψt,Ψk,T.elA_24,T.lay_24,T.szA_24,T.zr_24,Tryd.underlying24,qcall_f,call_f,len_slice,len_str,cap_slice,min_int,max_int,T.callable_33,bin_eql,bin_eqlb,bin_eqls,bin_eqla,T.szA_31,T.zr_31,Tryd.underlying31,fa_ptr,T.szA_4,T.zr_4,Tryd.underlying4,pick_bool,hP,h1_1,chk_eq]
    repeat' (first | refine iteB (fun hg => ?_) (fun hg => ?_) | refine iteI (fun hg => ?_) (fun hg => ?_) | ((first | (refine SCall.mono (refCheck_spec hP) ?_; rintro v_ L_ ⟨hv_, hL_⟩; rw [hv_, hL_]; clear hv_ hL_ v_ L_) | (refine SCall.mono (refShown_spec hP) ?_; rintro v_ L_ ⟨hv_, hL_⟩; rw [hv_, hL_]; clear hv_ hL_ v_ L_) | refine And.intro (by omega) ?_ | refine ⟨_, Cell.at 0 rfl rfl, _, Cell.at 0 rfl rfl, _, Cell.at 0 rfl rfl, _, Cell.at 0 rfl rfl, ?_⟩ | refine ⟨_, Cell.at 0 rfl rfl, ?_⟩ | fail); try simp (maxSteps := 1000000) only [ΦY,Φy,Φz,ΦL,ev,Φi,Φv,Φs,Φt,Φx,Φw,Φd,Φn,reduceIte,reduceCtorEq,if_true,if_false,Φo,Φk,Φa,Φb,true_and,and_true,false_and,and_false,true_implies,forall_const,false_implies,ne_eq,not_true_eq_false,not_false_eq_true,decide_true,decide_false,Φu,and_self,true_or,or_true,dite_true,dite_false,Φe,Φc,decide_eq_true_eq,decide_eq_false_iff_not,Φf,Φh,Φg,Φj,beq_self_eq_true,Φp,Φq,Φr,Φl,Φm,eq_self,Ψx,Ψm,Ψn,VCops,VQops,Ψv,putVC,VC,VQ,ΦU,ΦV,ΦN,ΦO,ΦE,ΦF,ΦI,List.getElem?_cons_zero,List.getElem?_cons_succ,List.getElem?_nil,List.getElem?_toArray,Ψd,Ψi,ΦP,ΦA,ΦB,ΦT,ΦM,ΦW,ΦJ,ΦQ,ΦR,ΦX,ΦG,ΦH,ΦZ,ΦC,ΦD,Ψa,ΦK,Ψj,ΦS,Ψb,Ψe,Ψf,Ψg,Ψh,Ψo,exists_eq_left,exists_eq_left',exists_const,Ψs,Ψp,Ψq,ld_ptr,loadVC,loadN,Ψu,Ψl,Ψw,Ψc,Ψr,Ψt,Ψk,T.elA_24,T.lay_24,T.szA_24,T.zr_24,Tryd.underlying24,qcall_f,call_f,len_slice,len_str,cap_slice,min_int,max_int,T.callable_33,bin_eql,bin_eqlb,bin_eqls,bin_eqla,T.szA_31,T.zr_31,Tryd.underlying31,fa_ptr,T.szA_4,T.zr_4,Tryd.underlying4,pick_bool,hP,h1_1,chk_eq]) | fail)
    all_goals
      refine hK3 () _ (some (bx, .cells #[.int .i64 l, .int .i64 c, .bool o, .int .i64 g] 24 (0, 0)) :: L) _ (by first | exact Less.refl _ | exact Less.drop _ _ | exact Less.drops (Less.drop _ _) | exact Less.drops (Less.drops (Less.drop _ _)) | exact Less.drops (Less.drops (Less.drops (Less.drop _ _))) | exact Less.drops (Less.drops (Less.drops (Less.drops (Less.drop _ _))))) ?_
      try dsimp only
      refine ⟨?_, ?_, ?_, ?_⟩
      · simp (maxSteps := 1000000) only [ΦY,Φy,Φz,ΦL,ev,Φi,Φv,Φs,Φt,Φx,Φw,Φd,Φn,reduceIte,reduceCtorEq,if_true,if_false,Φo,Φk,Φa,Φb,true_and,and_true,false_and,and_false,true_implies,forall_const,false_implies,ne_eq,not_true_eq_false,not_false_eq_true,decide_true,decide_false,Φu,and_self,true_or,or_true,dite_true,dite_false,Φe,Φc,decide_eq_true_eq,decide_eq_false_iff_not,Φf,Φh,Φg,Φj,beq_self_eq_true,Φp,Φq,Φr,Φl,Φm,eq_self,hP,h1_1]
        first | done | rfl | (rw [hg]; rfl) | simp [hg]
      · simp (maxSteps := 1000000) only [ΦY,Φy,Φz,ΦL,ev,Φi,Φv,Φs,Φt,Φx,Φw,Φd,Φn,reduceIte,reduceCtorEq,if_true,if_false,Φo,Φk,Φa,Φb,true_and,and_true,false_and,and_false,true_implies,forall_const,false_implies,ne_eq,not_true_eq_false,not_false_eq_true,decide_true,decide_false,Φu,and_self,true_or,or_true,dite_true,dite_false,Φe,Φc,decide_eq_true_eq,decide_eq_false_iff_not,Φf,Φh,Φg,Φj,beq_self_eq_true,Φp,Φq,Φr,Φl,Φm,eq_self,hP,h1_1]
      · rfl
      · trivial
  · intro ss T2 L2 hI
    simp only [h1_1] at hI 
    obtain ⟨h2_9, h2_1, hL2, hinv⟩ := hI
    replace hL2 := hL2.symm
    subst hL2
    clear h1_1 T1
    refine RX.live [1, 9] (fun T3 hT3 => ?_)
    simp only [ΨH,forall_mem_nil',ΦY,Φy,Φz,ΦL,ev,Φi,Φv,Φs,Φt,Φx,Φw,Φd,Φn,reduceIte,reduceCtorEq,if_true,if_false,Φo,Φk,Φa,Φb,true_and,and_true,false_and,and_false,true_implies,forall_const,false_implies,ne_eq,not_true_eq_false,not_false_eq_true,decide_true,decide_false,Φu,and_self,true_or,or_true,dite_true,dite_false,Φe,Φc,decide_eq_true_eq,decide_eq_false_iff_not,Φf,Φh,Φg,Φj,beq_self_eq_true,Φp,Φq,Φr,Φl,Φm,eq_self,hP,h2_9,h2_1] at hT3
    obtain ⟨h3_1, h3_9⟩ := hT3
    clear h2_9 h2_1 T2
    refine RX.join 5 (fun (ss : Unit) T L' => T 14 = .bool (okB l c g && o && decide (80 ≤ l ∧ l ≤ 207)) ∧ T 1 = T3 1 ∧ L' = some (bx, .cells #[.int .i64 l, .int .i64 c, .bool o, .int .i64 g] 24 (0, 0)) :: L ∧ (True)) (fun K4 hK4 => ?_) ?_
    · simp only [h3_1] at hK4
      simp (maxSteps := 1000000) only [ΦY,Φy,Φz,ΦL,ev,Φi,Φv,Φs,Φt,Φx,Φw,Φd,Φn,reduceIte,reduceCtorEq,if_true,if_false,Φo,Φk,Φa,Φb,true_and,and_true,false_and,and_false,true_implies,forall_const,false_implies,ne_eq,not_true_eq_false,not_false_eq_true,decide_true,decide_false,Φu,and_self,true_or,or_true,dite_true,dite_false,Φe,Φc,decide_eq_true_eq,decide_eq_false_iff_not,Φf,Φh,Φg,Φj,beq_self_eq_true,Φp,Φq,Φr,Φl,Φm,eq_self,Ψx,Ψm,Ψn,VCops,VQops,Ψv,putVC,VC,VQ,ΦU,ΦV,ΦN,ΦO,ΦE,ΦF,ΦI,List.getElem?_cons_zero,List.getElem?_cons_succ,List.getElem?_nil,List.getElem?_toArray,Ψd,Ψi,ΦP,ΦA,ΦB,ΦT,ΦM,ΦW,ΦJ,ΦQ,ΦR,ΦX,ΦG,ΦH,ΦZ,ΦC,ΦD,Ψa,ΦK,Ψj,ΦS,Ψb,Ψe,Ψf,Ψg,Ψh,Ψo,exists_eq_left,exists_eq_left',exists_const,Ψs,Ψp,Ψq,fa_ptr,Ψu,Ψl,Ψw,Ψc,Ψr,Ψt,Ψk,T.elA_24,T.lay_24,T.szA_24,T.zr_24,Tryd.underlying24,ld_ptr,loadVC,loadN,T.szA_3,T.zr_3,Tryd.underlying3,qcall_f,call_f,len_slice,len_str,cap_slice,min_int,max_int,T.callable_49,pick_bool,hP,h3_1,h3_9,chk_eq]
      repeat' (first | refine iteB (fun hg => ?_) (fun hg => ?_) | refine iteI (fun hg => ?_) (fun hg => ?_) | ((first | (refine SCall.mono (refCheck_spec hP) ?_; rintro v_ L_ ⟨hv_, hL_⟩; rw [hv_, hL_]; clear hv_ hL_ v_ L_) | (refine SCall.mono (refShown_spec hP) ?_; rintro v_ L_ ⟨hv_, hL_⟩; rw [hv_, hL_]; clear hv_ hL_ v_ L_) | refine And.intro (by omega) ?_ | refine ⟨_, Cell.at 0 rfl rfl, ?_⟩ | fail); try simp (maxSteps := 1000000) only [ΦY,Φy,Φz,ΦL,ev,Φi,Φv,Φs,Φt,Φx,Φw,Φd,Φn,reduceIte,reduceCtorEq,if_true,if_false,Φo,Φk,Φa,Φb,true_and,and_true,false_and,and_false,true_implies,forall_const,false_implies,ne_eq,not_true_eq_false,not_false_eq_true,decide_true,decide_false,Φu,and_self,true_or,or_true,dite_true,dite_false,Φe,Φc,decide_eq_true_eq,decide_eq_false_iff_not,Φf,Φh,Φg,Φj,beq_self_eq_true,Φp,Φq,Φr,Φl,Φm,eq_self,Ψx,Ψm,Ψn,VCops,VQops,Ψv,putVC,VC,VQ,ΦU,ΦV,ΦN,ΦO,ΦE,ΦF,ΦI,List.getElem?_cons_zero,List.getElem?_cons_succ,List.getElem?_nil,List.getElem?_toArray,Ψd,Ψi,ΦP,ΦA,ΦB,ΦT,ΦM,ΦW,ΦJ,ΦQ,ΦR,ΦX,ΦG,ΦH,ΦZ,ΦC,ΦD,Ψa,ΦK,Ψj,ΦS,Ψb,Ψe,Ψf,Ψg,Ψh,Ψo,exists_eq_left,exists_eq_left',exists_const,Ψs,Ψp,Ψq,fa_ptr,Ψu,Ψl,Ψw,Ψc,Ψr,Ψt,Ψk,T.elA_24,T.lay_24,T.szA_24,T.zr_24,Tryd.underlying24,ld_ptr,loadVC,loadN,T.szA_3,T.zr_3,Tryd.underlying3,qcall_f,call_f,len_slice,len_str,cap_slice,min_int,max_int,T.callable_49,pick_bool,hP,h3_1,h3_9,chk_eq]) | fail)
      all_goals
        refine hK4 () _ (some (bx, .cells #[.int .i64 l, .int .i64 c, .bool o, .int .i64 g] 24 (0, 0)) :: L) _ (by first | exact Less.refl _ | exact Less.drop _ _ | exact Less.drops (Less.drop _ _) | exact Less.drops (Less.drops (Less.drop _ _)) | exact Less.drops (Less.drops (Less.drops (Less.drop _ _))) | exact Less.drops (Less.drops (Less.drops (Less.drops (Less.drop _ _))))) ?_
        try dsimp only
        refine ⟨?_, ?_, ?_, ?_⟩
        · simp (maxSteps := 1000000) only [ΦY,Φy,Φz,ΦL,ev,Φi,Φv,Φs,Φt,Φx,Φw,Φd,Φn,reduceIte,reduceCtorEq,if_true,if_false,Φo,Φk,Φa,Φb,true_and,and_true,false_and,and_false,true_implies,forall_const,false_implies,ne_eq,not_true_eq_false,not_false_eq_true,decide_true,decide_false,Φu,and_self,true_or,or_true,dite_true,dite_false,Φe,Φc,decide_eq_true_eq,decide_eq_false_iff_not,Φf,Φh,Φg,Φj,beq_self_eq_true,Φp,Φq,Φr,Φl,Φm,eq_self,hP,h3_1,h3_9]
          first | done | rfl | (rw [hg]; rfl) | simp [hg]
        · simp (maxSteps := 1000000) only [ΦY,Φy,Φz,ΦL,ev,Φi,Φv,Φs,Φt,Φx,Φw,Φd,Φn,reduceIte,reduceCtorEq,if_true,if_false,Φo,Φk,Φa,Φb,true_and,and_true,false_and,and_false,true_implies,forall_const,false_implies,ne_eq,not_true_eq_false,not_false_eq_true,decide_true,decide_false,Φu,and_self,true_or,or_true,dite_true,dite_false,Φe,Φc,decide_eq_true_eq,decide_eq_false_iff_not,Φf,Φh,Φg,Φj,beq_self_eq_true,Φp,Φq,Φr,Φl,Φm,eq_self,hP,h3_1,h3_9]
        · rfl
        · trivial
    · intro ss T4 L4 hI
      simp only [h3_1] at hI 
      obtain ⟨h4_14, h4_1, hL4, hinv⟩ := hI
      replace hL4 := hL4.symm
      subst hL4
      clear h3_1 h3_9 T3
      refine RX.live [1, 14] (fun T5 hT5 => ?_)
      simp only [ΨH,forall_mem_nil',ΦY,Φy,Φz,ΦL,ev,Φi,Φv,Φs,Φt,Φx,Φw,Φd,Φn,reduceIte,reduceCtorEq,if_true,if_false,Φo,Φk,Φa,Φb,true_and,and_true,false_and,and_false,true_implies,forall_const,false_implies,ne_eq,not_true_eq_false,not_false_eq_true,decide_true,decide_false,Φu,and_self,true_or,or_true,dite_true,dite_false,Φe,Φc,decide_eq_true_eq,decide_eq_false_iff_not,Φf,Φh,Φg,Φj,beq_self_eq_true,Φp,Φq,Φr,Φl,Φm,eq_self,hP,h4_14,h4_1] at hT5
      obtain ⟨h5_1, h5_14⟩ := hT5
      clear h4_14 h4_1 T4
      refine RX.join 5 (fun (ss : Unit) T L' => T 19 = .bool (okB l c g && o && decide (80 ≤ l ∧ l ≤ 207) && decide (2 ≤ c)) ∧ T 1 = T5 1 ∧ L' = some (bx, .cells #[.int .i64 l, .int .i64 c, .bool o, .int .i64 g] 24 (0, 0)) :: L ∧ (True)) (fun K5 hK5 => ?_) ?_
      · simp only [h5_1] at hK5
        simp (maxSteps := 1000000) only [ΦY,Φy,Φz,ΦL,ev,Φi,Φv,Φs,Φt,Φx,Φw,Φd,Φn,reduceIte,reduceCtorEq,if_true,if_false,Φo,Φk,Φa,Φb,true_and,and_true,false_and,and_false,true_implies,forall_const,false_implies,ne_eq,not_true_eq_false,not_false_eq_true,decide_true,decide_false,Φu,and_self,true_or,or_true,dite_true,dite_false,Φe,Φc,decide_eq_true_eq,decide_eq_false_iff_not,Φf,Φh,Φg,Φj,beq_self_eq_true,Φp,Φq,Φr,Φl,Φm,eq_self,Ψx,Ψm,Ψn,VCops,VQops,Ψv,putVC,VC,VQ,ΦU,ΦV,ΦN,ΦO,ΦE,ΦF,ΦI,List.getElem?_cons_zero,List.getElem?_cons_succ,List.getElem?_nil,List.getElem?_toArray,Ψd,Ψi,ΦP,ΦA,ΦB,ΦT,ΦM,ΦW,ΦJ,ΦQ,ΦR,ΦX,ΦG,ΦH,ΦZ,ΦC,ΦD,Ψa,ΦK,Ψj,ΦS,Ψb,Ψe,Ψf,Ψg,Ψh,Ψo,exists_eq_left,exists_eq_left',exists_const,Ψs,Ψp,Ψq,fa_ptr,Ψu,Ψl,Ψw,Ψc,Ψr,Ψt,Ψk,T.elA_24,T.lay_24,T.szA_24,T.zr_24,Tryd.underlying24,ld_ptr,loadVC,loadN,T.szA_3,T.zr_3,Tryd.underlying3,bin_geq,pick_bool,hP,h5_1,h5_14,chk_eq]
        repeat' (first | refine iteB (fun hg => ?_) (fun hg => ?_) | refine iteI (fun hg => ?_) (fun hg => ?_) | ((first | (refine SCall.mono (refCheck_spec hP) ?_; rintro v_ L_ ⟨hv_, hL_⟩; rw [hv_, hL_]; clear hv_ hL_ v_ L_) | (refine SCall.mono (refShown_spec hP) ?_; rintro v_ L_ ⟨hv_, hL_⟩; rw [hv_, hL_]; clear hv_ hL_ v_ L_) | refine And.intro (by omega) ?_ | refine ⟨_, Cell.at 0 rfl rfl, ?_⟩ | fail); try simp (maxSteps := 1000000) only [ΦY,Φy,Φz,ΦL,ev,Φi,Φv,Φs,Φt,Φx,Φw,Φd,Φn,reduceIte,reduceCtorEq,if_true,if_false,Φo,Φk,Φa,Φb,true_and,and_true,false_and,and_false,true_implies,forall_const,false_implies,ne_eq,not_true_eq_false,not_false_eq_true,decide_true,decide_false,Φu,and_self,true_or,or_true,dite_true,dite_false,Φe,Φc,decide_eq_true_eq,decide_eq_false_iff_not,Φf,Φh,Φg,Φj,beq_self_eq_true,Φp,Φq,Φr,Φl,Φm,eq_self,Ψx,Ψm,Ψn,VCops,VQops,Ψv,putVC,VC,VQ,ΦU,ΦV,ΦN,ΦO,ΦE,ΦF,ΦI,List.getElem?_cons_zero,List.getElem?_cons_succ,List.getElem?_nil,List.getElem?_toArray,Ψd,Ψi,ΦP,ΦA,ΦB,ΦT,ΦM,ΦW,ΦJ,ΦQ,ΦR,ΦX,ΦG,ΦH,ΦZ,ΦC,ΦD,Ψa,ΦK,Ψj,ΦS,Ψb,Ψe,Ψf,Ψg,Ψh,Ψo,exists_eq_left,exists_eq_left',exists_const,Ψs,Ψp,Ψq,fa_ptr,Ψu,Ψl,Ψw,Ψc,Ψr,Ψt,Ψk,T.elA_24,T.lay_24,T.szA_24,T.zr_24,Tryd.underlying24,ld_ptr,loadVC,loadN,T.szA_3,T.zr_3,Tryd.underlying3,bin_geq,pick_bool,hP,h5_1,h5_14,chk_eq]) | fail)
        all_goals
          refine hK5 () _ (some (bx, .cells #[.int .i64 l, .int .i64 c, .bool o, .int .i64 g] 24 (0, 0)) :: L) _ (by first | exact Less.refl _ | exact Less.drop _ _ | exact Less.drops (Less.drop _ _) | exact Less.drops (Less.drops (Less.drop _ _)) | exact Less.drops (Less.drops (Less.drops (Less.drop _ _))) | exact Less.drops (Less.drops (Less.drops (Less.drops (Less.drop _ _))))) ?_
          try dsimp only
          refine ⟨?_, ?_, ?_, ?_⟩
          · simp (maxSteps := 1000000) only [ΦY,Φy,Φz,ΦL,ev,Φi,Φv,Φs,Φt,Φx,Φw,Φd,Φn,reduceIte,reduceCtorEq,if_true,if_false,Φo,Φk,Φa,Φb,true_and,and_true,false_and,and_false,true_implies,forall_const,false_implies,ne_eq,not_true_eq_false,not_false_eq_true,decide_true,decide_false,Φu,and_self,true_or,or_true,dite_true,dite_false,Φe,Φc,decide_eq_true_eq,decide_eq_false_iff_not,Φf,Φh,Φg,Φj,beq_self_eq_true,Φp,Φq,Φr,Φl,Φm,eq_self,hP,h5_1,h5_14]
            first | done | rfl | (rw [hg]; rfl) | simp [hg]
          · simp (maxSteps := 1000000) only [ΦY,Φy,Φz,ΦL,ev,Φi,Φv,Φs,Φt,Φx,Φw,Φd,Φn,reduceIte,reduceCtorEq,if_true,if_false,Φo,Φk,Φa,Φb,true_and,and_true,false_and,and_false,true_implies,forall_const,false_implies,ne_eq,not_true_eq_false,not_false_eq_true,decide_true,decide_false,Φu,and_self,true_or,or_true,dite_true,dite_false,Φe,Φc,decide_eq_true_eq,decide_eq_false_iff_not,Φf,Φh,Φg,Φj,beq_self_eq_true,Φp,Φq,Φr,Φl,Φm,eq_self,hP,h5_1,h5_14]
          · rfl
          · trivial
      · intro ss T6 L6 hI
        simp only [h5_1] at hI 
        obtain ⟨h6_19, h6_1, hL6, hinv⟩ := hI
        replace hL6 := hL6.symm
        subst hL6
        clear h5_1 h5_14 T5
        refine RX.live [1, 19] (fun T7 hT7 => ?_)
        simp only [ΨH,forall_mem_nil',ΦY,Φy,Φz,ΦL,ev,Φi,Φv,Φs,Φt,Φx,Φw,Φd,Φn,reduceIte,reduceCtorEq,if_true,if_false,Φo,Φk,Φa,Φb,true_and,and_true,false_and,and_false,true_implies,forall_const,false_implies,ne_eq,not_true_eq_false,not_false_eq_true,decide_true,decide_false,Φu,and_self,true_or,or_true,dite_true,dite_false,Φe,Φc,decide_eq_true_eq,decide_eq_false_iff_not,Φf,Φh,Φg,Φj,beq_self_eq_true,Φp,Φq,Φr,Φl,Φm,eq_self,hP,h6_19,h6_1] at hT7
        obtain ⟨h7_1, h7_19⟩ := hT7
        clear h6_19 h6_1 T6
        refine RX.join 5 (fun (ss : Unit) T L' => T 24 = .bool (okB l c g && o && decide (80 ≤ l ∧ l ≤ 207) && decide (2 ≤ c) && decide (g < 8)) ∧ L' = some (bx, .cells #[.int .i64 l, .int .i64 c, .bool o, .int .i64 g] 24 (0, 0)) :: L ∧ (True)) (fun K6 hK6 => ?_) ?_
        · simp (maxSteps := 1000000) only [ΦY,Φy,Φz,ΦL,ev,Φi,Φv,Φs,Φt,Φx,Φw,Φd,Φn,reduceIte,reduceCtorEq,if_true,if_false,Φo,Φk,Φa,Φb,true_and,and_true,false_and,and_false,true_implies,forall_const,false_implies,ne_eq,not_true_eq_false,not_false_eq_true,decide_true,decide_false,Φu,and_self,true_or,or_true,dite_true,dite_false,Φe,Φc,decide_eq_true_eq,decide_eq_false_iff_not,Φf,Φh,Φg,Φj,beq_self_eq_true,Φp,Φq,Φr,Φl,Φm,eq_self,Ψx,Ψm,Ψn,VCops,VQops,Ψv,putVC,VC,VQ,ΦU,ΦV,ΦN,ΦO,ΦE,ΦF,ΦI,List.getElem?_cons_zero,List.getElem?_cons_succ,List.getElem?_nil,List.getElem?_toArray,Ψd,Ψi,ΦP,ΦA,ΦB,ΦT,ΦM,ΦW,ΦJ,ΦQ,ΦR,ΦX,ΦG,ΦH,ΦZ,ΦC,ΦD,Ψa,ΦK,Ψj,ΦS,Ψb,Ψe,Ψf,Ψg,Ψh,Ψo,exists_eq_left,exists_eq_left',exists_const,Ψs,Ψp,Ψq,fa_ptr,Ψu,Ψl,Ψw,Ψc,Ψr,Ψt,Ψk,T.elA_24,T.lay_24,T.szA_24,T.zr_24,Tryd.underlying24,ld_ptr,loadVC,loadN,T.szA_3,T.zr_3,Tryd.underlying3,bin_lss,pick_bool,hP,h7_1,h7_19,chk_eq]
          repeat' (first | refine iteB (fun hg => ?_) (fun hg => ?_) | refine iteI (fun hg => ?_) (fun hg => ?_) | ((first | (refine SCall.mono (refCheck_spec hP) ?_; rintro v_ L_ ⟨hv_, hL_⟩; rw [hv_, hL_]; clear hv_ hL_ v_ L_) | (refine SCall.mono (refShown_spec hP) ?_; rintro v_ L_ ⟨hv_, hL_⟩; rw [hv_, hL_]; clear hv_ hL_ v_ L_) | refine And.intro (by omega) ?_ | refine ⟨_, Cell.at 0 rfl rfl, ?_⟩ | fail); try simp (maxSteps := 1000000) only [ΦY,Φy,Φz,ΦL,ev,Φi,Φv,Φs,Φt,Φx,Φw,Φd,Φn,reduceIte,reduceCtorEq,if_true,if_false,Φo,Φk,Φa,Φb,true_and,and_true,false_and,and_false,true_implies,forall_const,false_implies,ne_eq,not_true_eq_false,not_false_eq_true,decide_true,decide_false,Φu,and_self,true_or,or_true,dite_true,dite_false,Φe,Φc,decide_eq_true_eq,decide_eq_false_iff_not,Φf,Φh,Φg,Φj,beq_self_eq_true,Φp,Φq,Φr,Φl,Φm,eq_self,Ψx,Ψm,Ψn,VCops,VQops,Ψv,putVC,VC,VQ,ΦU,ΦV,ΦN,ΦO,ΦE,ΦF,ΦI,List.getElem?_cons_zero,List.getElem?_cons_succ,List.getElem?_nil,List.getElem?_toArray,Ψd,Ψi,ΦP,ΦA,ΦB,ΦT,ΦM,ΦW,ΦJ,ΦQ,ΦR,ΦX,ΦG,ΦH,ΦZ,ΦC,ΦD,Ψa,ΦK,Ψj,ΦS,Ψb,Ψe,Ψf,Ψg,Ψh,Ψo,exists_eq_left,exists_eq_left',exists_const,Ψs,Ψp,Ψq,fa_ptr,Ψu,Ψl,Ψw,Ψc,Ψr,Ψt,Ψk,T.elA_24,T.lay_24,T.szA_24,T.zr_24,Tryd.underlying24,ld_ptr,loadVC,loadN,T.szA_3,T.zr_3,Tryd.underlying3,bin_lss,pick_bool,hP,h7_1,h7_19,chk_eq]) | fail)
          all_goals
            refine hK6 () _ (some (bx, .cells #[.int .i64 l, .int .i64 c, .bool o, .int .i64 g] 24 (0, 0)) :: L) _ (by first | exact Less.refl _ | exact Less.drop _ _ | exact Less.drops (Less.drop _ _) | exact Less.drops (Less.drops (Less.drop _ _)) | exact Less.drops (Less.drops (Less.drops (Less.drop _ _))) | exact Less.drops (Less.drops (Less.drops (Less.drops (Less.drop _ _))))) ?_
            try dsimp only
            refine ⟨?_, ?_, ?_⟩
            · simp (maxSteps := 1000000) only [ΦY,Φy,Φz,ΦL,ev,Φi,Φv,Φs,Φt,Φx,Φw,Φd,Φn,reduceIte,reduceCtorEq,if_true,if_false,Φo,Φk,Φa,Φb,true_and,and_true,false_and,and_false,true_implies,forall_const,false_implies,ne_eq,not_true_eq_false,not_false_eq_true,decide_true,decide_false,Φu,and_self,true_or,or_true,dite_true,dite_false,Φe,Φc,decide_eq_true_eq,decide_eq_false_iff_not,Φf,Φh,Φg,Φj,beq_self_eq_true,Φp,Φq,Φr,Φl,Φm,eq_self,hP,h7_1,h7_19]
              first | done | rfl | (rw [hg]; rfl) | simp [hg]
            · rfl
            · trivial
        · intro ss T8 L8 hI
          obtain ⟨h8_24, hL8, hinv⟩ := hI
          replace hL8 := hL8.symm
          subst hL8
          clear h7_1 h7_19 T7
          refine RX.done ?_
          simp (maxSteps := 1000000) only [ΦY,Φy,Φz,ΦL,ev,Φi,Φv,Φs,Φt,Φx,Φw,Φd,Φn,reduceIte,reduceCtorEq,if_true,if_false,Φo,Φk,Φa,Φb,true_and,and_true,false_and,and_false,true_implies,forall_const,false_implies,ne_eq,not_true_eq_false,not_false_eq_true,decide_true,decide_false,Φu,and_self,true_or,or_true,dite_true,dite_false,Φe,Φc,decide_eq_true_eq,decide_eq_false_iff_not,Φf,Φh,Φg,Φj,beq_self_eq_true,Φp,Φq,Φr,Φl,Φm,eq_self,Ψx,Ψm,Ψn,VCops,VQops,Ψv,putVC,VC,VQ,ΦU,ΦV,ΦN,ΦO,ΦE,ΦF,ΦI,List.getElem?_cons_zero,List.getElem?_cons_succ,List.getElem?_nil,List.getElem?_toArray,Ψd,Ψi,ΦP,ΦA,ΦB,ΦT,ΦM,ΦW,ΦJ,ΦQ,ΦR,ΦX,ΦG,ΦH,ΦZ,ΦC,ΦD,Ψa,ΦK,Ψj,ΦS,Ψb,Ψe,Ψf,Ψg,Ψh,Ψo,exists_eq_left,exists_eq_left',exists_const,Ψs,Ψp,Ψq,hP,h8_24]
          refine hK2 _ _ ?_
          try clear hK2 K2
          refine SX.ret ?_
          simp only [Φi, Φv, Φs, Φt, Φx, Φw, Φd, if_true, if_false, reduceIte, retQ_ret]
          try simp only [res0,res1,res2,res3,ΦY,Φy,Φz,ΦL,ev,Φi,Φv,Φs,Φt,Φx,Φw,Φd,Φn,reduceIte,reduceCtorEq,if_true,if_false,Φo,Φk,Φa,Φb,true_and,and_true,false_and,and_false,true_implies,forall_const,false_implies,ne_eq,not_true_eq_false,not_false_eq_true,decide_true,decide_false,Φu,and_self,true_or,or_true,dite_true,dite_false,Φe,Φc,decide_eq_true_eq,decide_eq_false_iff_not,Φf,Φh,Φg,Φj,beq_self_eq_true,Φp,Φq,Φr,Φl,Φm,eq_self,hP,h8_24]
          exact ⟨_, L, (by first | exact Less.refl _ | exact Less.drop _ _ | exact Less.drops (Less.drop _ _) | exact Less.drops (Less.drops (Less.drop _ _)) | exact Less.drops (Less.drops (Less.drops (Less.drop _ _))) | exact Less.drops (Less.drops (Less.drops (Less.drops (Less.drop _ _))))), rfl, rfl, rfl⟩
set_option maxHeartbeats 1000000 in
set_option maxRecDepth 100000 in
theorem refTakes_spec {Γ : Ctx} (hP : Γ.P = Tryd.prog) {L : Hp} {l c g : Int} {o : Bool} {code ad data port : Int} {rd wr own pulse : Bool} :
    SCall Γ 35 #[(.agg #[.int .i64 l, .int .i64 c, .bool o, .int .i64 g]), (.agg #[.int .u8 code, .int .u16 ad, .bool rd, .bool wr, .bool own, .int .u8 data, .int .u8 port, .bool pulse])] L (fun v L' => v = .bool (tB l c o g code rd) ∧ L' = L) := by
  refine SCall.enter (n := 16) (res1 4) (hP ▸ Tryd.func35) rfl rfl (by simp) (res1_ok rfl) ?_
  refine SX.seq_k fun K1 hK1 => ?_
  refine SX.region ?_
  simp (maxSteps := 1000000) only [ΦY,Φy,Φz,ΦL,ev,Φi,Φv,Φs,Φt,Φx,Φw,Φd,Φn,reduceIte,reduceCtorEq,if_true,if_false,Φo,Φk,Φa,Φb,true_and,and_true,false_and,and_false,true_implies,forall_const,false_implies,ne_eq,not_true_eq_false,not_false_eq_true,decide_true,decide_false,Φu,and_self,true_or,or_true,dite_true,dite_false,Φe,Φc,decide_eq_true_eq,decide_eq_false_iff_not,Φf,Φh,Φg,Φj,beq_self_eq_true,Φp,Φq,Φr,Φl,Φm,eq_self,Ψx,Ψm,Ψn,VCops,VQops,Ψv,putVC,VC,VQ,ΦU,ΦV,ΦN,ΦO,ΦE,ΦF,ΦI,List.getElem?_cons_zero,List.getElem?_cons_succ,List.getElem?_nil,List.getElem?_toArray,Ψd,Ψi,ΦP,ΦA,ΦB,ΦT,ΦM,ΦW,ΦJ,ΦQ,ΦR,ΦX,ΦG,ΦH,ΦZ,ΦC,ΦD,Ψa,ΦK,Ψj,ΦS,Ψb,Ψe,Ψf,Ψg,Ψh,Ψo,exists_eq_left,exists_eq_left',exists_const,Ψs,Ψp,Ψq,cells_int,cells_bool,ΨB,Ψz,ΨD,cells_agg,oneB_nil,oneB_cons,one_int,one_bool,one_string,ΨE,one_slice,one_map,one_func,ΨF,ΨC,one_iface,cells_map,cells_func,ΨA,Ψy,ΨG,T.elA_24,T.lay_24,T.szA_24,T.zr_24,Tryd.underlying24,T.elA_49,T.lay_49,T.szA_49,T.zr_49,Tryd.underlying49,hP]
  intro bx bd
  refine hK1 _ _ ?_
  try clear hK1 K1
  refine SX.seq_k fun K2 hK2 => ?_
  refine SX.region_x ?_
  refine RX.live [2, 3] (fun T1 hT1 => ?_)
  simp only [ΨH,forall_mem_nil',ΦY,Φy,Φz,ΦL,ev,Φi,Φv,Φs,Φt,Φx,Φw,Φd,Φn,reduceIte,reduceCtorEq,if_true,if_false,Φo,Φk,Φa,Φb,true_and,and_true,false_and,and_false,true_implies,forall_const,false_implies,ne_eq,not_true_eq_false,not_false_eq_true,decide_true,decide_false,Φu,and_self,true_or,or_true,dite_true,dite_false,Φe,Φc,decide_eq_true_eq,decide_eq_false_iff_not,Φf,Φh,Φg,Φj,beq_self_eq_true,Φp,Φq,Φr,Φl,Φm,eq_self,hP] at hT1
  obtain ⟨h1_2, h1_3⟩ := hT1
  refine RX.join 7 (fun (ss : Unit) T L' => T 11 = .bool (wB l c o g && decide (code = 2)) ∧ T 3 = T1 3 ∧ L' = some (bd, .cells #[.int .u8 code, .int .u16 ad, .bool rd, .bool wr, .bool own, .int .u8 data, .int .u8 port, .bool pulse] 49 (0, 0)) :: some (bx, .cells #[.int .i64 l, .int .i64 c, .bool o, .int .i64 g] 24 (0, 0)) :: L ∧ (True)) (fun K3 hK3 => ?_) ?_
  · simp only [h1_3] at hK3
    simp (maxSteps := 1000000) only [ΦY,Φy,Φz,ΦL,ev,Φi,Φv,Φs,Φt,Φx,Φw,Φd,Φn,reduceIte,reduceCtorEq,if_true,if_false,Φo,Φk,Φa,Φb,true_and,and_true,false_and,and_false,true_implies,forall_const,false_implies,ne_eq,not_true_eq_false,not_false_eq_true,decide_true,decide_false,Φu,and_self,true_or,or_true,dite_true,dite_false,Φe,Φc,decide_eq_true_eq,decide_eq_false_iff_not,Φf,Φh,Φg,Φj,beq_self_eq_true,Φp,Φq,Φr,Φl,Φm,eq_self,Ψx,Ψm,Ψn,VCops,VQops,Ψv,putVC,VC,VQ,ΦU,ΦV,ΦN,ΦO,ΦE,ΦF,ΦI,List.getElem?_cons_zero,List.getElem?_cons_succ,List.getElem?_nil,List.getElem?_toArray,Ψd,Ψi,ΦP,ΦA,ΦB,ΦT,ΦM,ΦW,ΦJ,ΦQ,ΦR,ΦX,ΦG,ΦH,ΦZ,ΦC,ΦD,Ψa,ΦK,Ψj,ΦS,Ψb,Ψe,Ψf,Ψg,Ψh,Ψo,exists_eq_left,exists_eq_left',exists_const,Ψs,Ψp,Ψq,ld_ptr,loadVC,loadN,Ψu,Ψl,Ψw,Ψc,Ψr,Ψt,Ψk,T.elA_24,T.lay_24,T.szA_24,T.zr_24,Tryd.underlying24,qcall_f,call_f,len_slice,len_str,cap_slice,min_int,max_int,T.callable_51,fa_ptr,T.elA_49,T.lay_49,T.szA_49,T.zr_49,Tryd.underlying49,T.szA_5,T.zr_5,Tryd.underlying5,bin_eql,bin_eqlb,bin_eqls,bin_eqla,pick_bool,hP,h1_2,h1_3]
    repeat' (first | refine iteB (fun hg => ?_) (fun hg => ?_) | refine iteI (fun hg => ?_) (fun hg => ?_) | ((first | (refine SCall.mono (refWants_spec hP) ?_; rintro v_ L_ ⟨hv_, hL_⟩; rw [hv_, hL_]; clear hv_ hL_ v_ L_) | refine And.intro (by omega) ?_ | refine ⟨_, Cell.at 0 rfl rfl, _, Cell.at 0 rfl rfl, _, Cell.at 0 rfl rfl, _, Cell.at 0 rfl rfl, ?_⟩ | refine ⟨_, Cell.at 1 rfl rfl, _, Cell.at 1 rfl rfl, _, Cell.at 1 rfl rfl, _, Cell.at 1 rfl rfl, ?_⟩ | refine ⟨_, Cell.at 0 rfl rfl, ?_⟩ | refine ⟨_, Cell.at 1 rfl rfl, ?_⟩ | fail); try simp (maxSteps := 1000000) only [ΦY,Φy,Φz,ΦL,ev,Φi,Φv,Φs,Φt,Φx,Φw,Φd,Φn,reduceIte,reduceCtorEq,if_true,if_false,Φo,Φk,Φa,Φb,true_and,and_true,false_and,and_false,true_implies,forall_const,false_implies,ne_eq,not_true_eq_false,not_false_eq_true,decide_true,decide_false,Φu,and_self,true_or,or_true,dite_true,dite_false,Φe,Φc,decide_eq_true_eq,decide_eq_false_iff_not,Φf,Φh,Φg,Φj,beq_self_eq_true,Φp,Φq,Φr,Φl,Φm,eq_self,Ψx,Ψm,Ψn,VCops,VQops,Ψv,putVC,VC,VQ,ΦU,ΦV,ΦN,ΦO,ΦE,ΦF,ΦI,List.getElem?_cons_zero,List.getElem?_cons_succ,List.getElem?_nil,List.getElem?_toArray,Ψd,Ψi,ΦP,ΦA,ΦB,ΦT,ΦM,ΦW,ΦJ,ΦQ,ΦR,ΦX,ΦG,ΦH,ΦZ,ΦC,ΦD,Ψa,ΦK,Ψj,ΦS,Ψb,Ψe,Ψf,Ψg,Ψh,Ψo,exists_eq_left,exists_eq_left',exists_const,Ψs,Ψp,Ψq,ld_ptr,loadVC,loadN,Ψu,Ψl,Ψw,Ψc,Ψr,Ψt,Ψk,T.elA_24,T.lay_24,T.szA_24,T.zr_24,Tryd.underlying24,qcall_f,call_f,len_slice,len_str,cap_slice,min_int,max_int,T.callable_51,fa_ptr,T.elA_49,T.lay_49,T.szA_49,T.zr_49,Tryd.underlying49,T.szA_5,T.zr_5,Tryd.underlying5,bin_eql,bin_eqlb,bin_eqls,bin_eqla,pick_bool,hP,h1_2,h1_3]) | fail)
    all_goals
      refine hK3 () _ (some (bd, .cells #[.int .u8 code, .int .u16 ad, .bool rd, .bool wr, .bool own, .int .u8 data, .int .u8 port, .bool pulse] 49 (0, 0)) :: some (bx, .cells #[.int .i64 l, .int .i64 c, .bool o, .int .i64 g] 24 (0, 0)) :: L) _ (by first | exact Less.refl _ | exact Less.drop _ _ | exact Less.drops (Less.drop _ _) | exact Less.drops (Less.drops (Less.drop _ _)) | exact Less.drops (Less.drops (Less.drops (Less.drop _ _))) | exact Less.drops (Less.drops (Less.drops (Less.drops (Less.drop _ _))))) ?_
      try dsimp only
      refine ⟨?_, ?_, ?_, ?_⟩
      · simp (maxSteps := 1000000) only [ΦY,Φy,Φz,ΦL,ev,Φi,Φv,Φs,Φt,Φx,Φw,Φd,Φn,reduceIte,reduceCtorEq,if_true,if_false,Φo,Φk,Φa,Φb,true_and,and_true,false_and,and_false,true_implies,forall_const,false_implies,ne_eq,not_true_eq_false,not_false_eq_true,decide_true,decide_false,Φu,and_self,true_or,or_true,dite_true,dite_false,Φe,Φc,decide_eq_true_eq,decide_eq_false_iff_not,Φf,Φh,Φg,Φj,beq_self_eq_true,Φp,Φq,Φr,Φl,Φm,eq_self,hP,h1_2,h1_3]
        first | done | rfl | (rw [hg]; rfl) | simp [hg]
      · simp (maxSteps := 1000000) only [ΦY,Φy,Φz,ΦL,ev,Φi,Φv,Φs,Φt,Φx,Φw,Φd,Φn,reduceIte,reduceCtorEq,if_true,if_false,Φo,Φk,Φa,Φb,true_and,and_true,false_and,and_false,true_implies,forall_const,false_implies,ne_eq,not_true_eq_false,not_false_eq_true,decide_true,decide_false,Φu,and_self,true_or,or_true,dite_true,dite_false,Φe,Φc,decide_eq_true_eq,decide_eq_false_iff_not,Φf,Φh,Φg,Φj,beq_self_eq_true,Φp,Φq,Φr,Φl,Φm,eq_self,hP,h1_2,h1_3]
      · rfl
      · trivial
  · intro ss T2 L2 hI
    simp only [h1_3] at hI 
    obtain ⟨h2_11, h2_3, hL2, hinv⟩ := hI
    replace hL2 := hL2.symm
    subst hL2
    clear h1_2 h1_3 T1
    refine RX.live [3, 11] (fun T3 hT3 => ?_)
    simp only [ΨH,forall_mem_nil',ΦY,Φy,Φz,ΦL,ev,Φi,Φv,Φs,Φt,Φx,Φw,Φd,Φn,reduceIte,reduceCtorEq,if_true,if_false,Φo,Φk,Φa,Φb,true_and,and_true,false_and,and_false,true_implies,forall_const,false_implies,ne_eq,not_true_eq_false,not_false_eq_true,decide_true,decide_false,Φu,and_self,true_or,or_true,dite_true,dite_false,Φe,Φc,decide_eq_true_eq,decide_eq_false_iff_not,Φf,Φh,Φg,Φj,beq_self_eq_true,Φp,Φq,Φr,Φl,Φm,eq_self,hP,h2_11,h2_3] at hT3
    obtain ⟨h3_3, h3_11⟩ := hT3
    clear h2_11 h2_3 T2
    refine RX.join 4 (fun (ss : Unit) T L' => T 15 = .bool (wB l c o g && decide (code = 2) && rd) ∧ L' = some (bd, .cells #[.int .u8 code, .int .u16 ad, .bool rd, .bool wr, .bool own, .int .u8 data, .int .u8 port, .bool pulse] 49 (0, 0)) :: some (bx, .cells #[.int .i64 l, .int .i64 c, .bool o, .int .i64 g] 24 (0, 0)) :: L ∧ (True)) (fun K4 hK4 => ?_) ?_
    · simp (maxSteps := 1000000) only [ΦY,Φy,Φz,ΦL,ev,Φi,Φv,Φs,Φt,Φx,Φw,Φd,Φn,reduceIte,reduceCtorEq,if_true,if_false,Φo,Φk,Φa,Φb,true_and,and_true,false_and,and_false,true_implies,forall_const,false_implies,ne_eq,not_true_eq_false,not_false_eq_true,decide_true,decide_false,Φu,and_self,true_or,or_true,dite_true,dite_false,Φe,Φc,decide_eq_true_eq,decide_eq_false_iff_not,Φf,Φh,Φg,Φj,beq_self_eq_true,Φp,Φq,Φr,Φl,Φm,eq_self,Ψx,Ψm,Ψn,VCops,VQops,Ψv,putVC,VC,VQ,ΦU,ΦV,ΦN,ΦO,ΦE,ΦF,ΦI,List.getElem?_cons_zero,List.getElem?_cons_succ,List.getElem?_nil,List.getElem?_toArray,Ψd,Ψi,ΦP,ΦA,ΦB,ΦT,ΦM,ΦW,ΦJ,ΦQ,ΦR,ΦX,ΦG,ΦH,ΦZ,ΦC,ΦD,Ψa,ΦK,Ψj,ΦS,Ψb,Ψe,Ψf,Ψg,Ψh,Ψo,exists_eq_left,exists_eq_left',exists_const,Ψs,Ψp,Ψq,fa_ptr,Ψu,Ψl,Ψw,Ψc,Ψr,Ψt,Ψk,T.elA_49,T.lay_49,T.szA_49,T.zr_49,Tryd.underlying49,ld_ptr,loadVC,loadN,T.szA_4,T.zr_4,Tryd.underlying4,pick_bool,hP,h3_3,h3_11]
      repeat' (first | refine iteB (fun hg => ?_) (fun hg => ?_) | refine iteI (fun hg => ?_) (fun hg => ?_) | ((first | (refine SCall.mono (refWants_spec hP) ?_; rintro v_ L_ ⟨hv_, hL_⟩; rw [hv_, hL_]; clear hv_ hL_ v_ L_) | refine And.intro (by omega) ?_ | refine ⟨_, Cell.at 0 rfl rfl, ?_⟩ | refine ⟨_, Cell.at 1 rfl rfl, ?_⟩ | fail); try simp (maxSteps := 1000000) only [ΦY,Φy,Φz,ΦL,ev,Φi,Φv,Φs,Φt,Φx,Φw,Φd,Φn,reduceIte,reduceCtorEq,if_true,if_false,Φo,Φk,Φa,Φb,true_and,and_true,false_and,and_false,true_implies,forall_const,false_implies,ne_eq,not_true_eq_false,not_false_eq_true,decide_true,decide_false,Φu,and_self,true_or,or_true,dite_true,dite_false,Φe,Φc,decide_eq_true_eq,decide_eq_false_iff_not,Φf,Φh,Φg,Φj,beq_self_eq_true,Φp,Φq,Φr,Φl,Φm,eq_self,Ψx,Ψm,Ψn,VCops,VQops,Ψv,putVC,VC,VQ,ΦU,ΦV,ΦN,ΦO,ΦE,ΦF,ΦI,List.getElem?_cons_zero,List.getElem?_cons_succ,List.getElem?_nil,List.getElem?_toArray,Ψd,Ψi,ΦP,ΦA,ΦB,ΦT,ΦM,ΦW,ΦJ,ΦQ,ΦR,ΦX,ΦG,ΦH,ΦZ,ΦC,ΦD,Ψa,ΦK,Ψj,ΦS,Ψb,Ψe,Ψf,Ψg,Ψh,Ψo,exists_eq_left,exists_eq_left',exists_const,Ψs,Ψp,Ψq,fa_ptr,Ψu,Ψl,Ψw,Ψc,Ψr,Ψt,Ψk,T.elA_49,T.lay_49,T.szA_49,T.zr_49,Tryd.underlying49,ld_ptr,loadVC,loadN,T.szA_4,T.zr_4,Tryd.underlying4,pick_bool,hP,h3_3,h3_11]) | fail)
      all_goals
        refine hK4 () _ (some (bd, .cells #[.int .u8 code, .int .u16 ad, .bool rd, .bool wr, .bool own, .int .u8 data, .int .u8 port, .bool pulse] 49 (0, 0)) :: some (bx, .cells #[.int .i64 l, .int .i64 c, .bool o, .int .i64 g] 24 (0, 0)) :: L) _ (by first | exact Less.refl _ | exact Less.drop _ _ | exact Less.drops (Less.drop _ _) | exact Less.drops (Less.drops (Less.drop _ _)) | exact Less.drops (Less.drops (Less.drops (Less.drop _ _))) | exact Less.drops (Less.drops (Less.drops (Less.drops (Less.drop _ _))))) ?_
        try dsimp only
        refine ⟨?_, ?_, ?_⟩
        · simp (maxSteps := 1000000) only [ΦY,Φy,Φz,ΦL,ev,Φi,Φv,Φs,Φt,Φx,Φw,Φd,Φn,reduceIte,reduceCtorEq,if_true,if_false,Φo,Φk,Φa,Φb,true_and,and_true,false_and,and_false,true_implies,forall_const,false_implies,ne_eq,not_true_eq_false,not_false_eq_true,decide_true,decide_false,Φu,and_self,true_or,or_true,dite_true,dite_false,Φe,Φc,decide_eq_true_eq,decide_eq_false_iff_not,Φf,Φh,Φg,Φj,beq_self_eq_true,Φp,Φq,Φr,Φl,Φm,eq_self,hP,h3_3,h3_11]
          first | done | rfl | (rw [hg]; rfl) | simp [hg]
        · rfl
        · trivial
    · intro ss T4 L4 hI
      obtain ⟨h4_15, hL4, hinv⟩ := hI
      replace hL4 := hL4.symm
      subst hL4
      clear h3_3 h3_11 T3
      refine RX.done ?_
      simp (maxSteps := 1000000) only [ΦY,Φy,Φz,ΦL,ev,Φi,Φv,Φs,Φt,Φx,Φw,Φd,Φn,reduceIte,reduceCtorEq,if_true,if_false,Φo,Φk,Φa,Φb,true_and,and_true,false_and,and_false,true_implies,forall_const,false_implies,ne_eq,not_true_eq_false,not_false_eq_true,decide_true,decide_false,Φu,and_self,true_or,or_true,dite_true,dite_false,Φe,Φc,decide_eq_true_eq,decide_eq_false_iff_not,Φf,Φh,Φg,Φj,beq_self_eq_true,Φp,Φq,Φr,Φl,Φm,eq_self,Ψx,Ψm,Ψn,VCops,VQops,Ψv,putVC,VC,VQ,ΦU,ΦV,ΦN,ΦO,ΦE,ΦF,ΦI,List.getElem?_cons_zero,List.getElem?_cons_succ,List.getElem?_nil,List.getElem?_toArray,Ψd,Ψi,ΦP,ΦA,ΦB,ΦT,ΦM,ΦW,ΦJ,ΦQ,ΦR,ΦX,ΦG,ΦH,ΦZ,ΦC,ΦD,Ψa,ΦK,Ψj,ΦS,Ψb,Ψe,Ψf,Ψg,Ψh,Ψo,exists_eq_left,exists_eq_left',exists_const,Ψs,Ψp,Ψq,hP,h4_15]
      refine hK2 _ _ ?_
      try clear hK2 K2
      refine SX.ret ?_
      simp only [Φi, Φv, Φs, Φt, Φx, Φw, Φd, if_true, if_false, reduceIte, retQ_ret]
      try simp only [res0,res1,res2,res3,ΦY,Φy,Φz,ΦL,ev,Φi,Φv,Φs,Φt,Φx,Φw,Φd,Φn,reduceIte,reduceCtorEq,if_true,if_false,Φo,Φk,Φa,Φb,true_and,and_true,false_and,and_false,true_implies,forall_const,false_implies,ne_eq,not_true_eq_false,not_false_eq_true,decide_true,decide_false,Φu,and_self,true_or,or_true,dite_true,dite_false,Φe,Φc,decide_eq_true_eq,decide_eq_false_iff_not,Φf,Φh,Φg,Φj,beq_self_eq_true,Φp,Φq,Φr,Φl,Φm,eq_self,hP,h4_15]
      exact ⟨_, L, (by first | exact Less.refl _ | exact Less.drop _ _ | exact Less.drops (Less.drop _ _) | exact Less.drops (Less.drops (Less.drop _ _)) | exact Less.drops (Less.drops (Less.drops (Less.drop _ _))) | exact Less.drops (Less.drops (Less.drops (Less.drops (Less.drop _ _))))), rfl, rfl, rfl⟩
set_option maxHeartbeats 1000000 in
set_option maxRecDepth 100000 in
theorem refStep_spec {Γ : Ctx} (hP : Γ.P = Tryd.prog) {L : Hp} {l c g : Int} {o : Bool} {code ad data port : Int} {rd wr own pulse : Bool} {m : Int} :
    SCall Γ 20 #[(.agg #[.int .i64 l, .int .i64 c, .bool o, .int .i64 g]), (.agg #[.int .u8 code, .int .u16 ad, .bool rd, .bool wr, .bool own, .int .u8 data, .int .u8 port, .bool pulse]), (.int .u8 m)] L (fun v L' => v = rv (step l c o g code port rd wr m) ∧ L' = L) := by
  refine SCall.enter (n := 65) (resX Γ [.cell 6 24]) (hP ▸ Tryd.func20) rfl rfl (by simp) (resX_ok rfl) ?_
  refine SX.seq_k fun K1 hK1 => ?_
  refine SX.region ?_
  simp (maxSteps := 1000000) only [ΦY,Φy,Φz,ΦL,ev,Φi,Φv,Φs,Φt,Φx,Φw,Φd,Φn,reduceIte,reduceCtorEq,if_true,if_false,Φo,Φk,Φa,Φb,true_and,and_true,false_and,and_false,true_implies,forall_const,false_implies,ne_eq,not_true_eq_false,not_false_eq_true,decide_true,decide_false,Φu,and_self,true_or,or_true,dite_true,dite_false,Φe,Φc,decide_eq_true_eq,decide_eq_false_iff_not,Φf,Φh,Φg,Φj,beq_self_eq_true,Φp,Φq,Φr,Φl,Φm,eq_self,Ψx,Ψm,Ψn,VCops,VQops,Ψv,putVC,VC,VQ,ΦU,ΦV,ΦN,ΦO,ΦE,ΦF,ΦI,List.getElem?_cons_zero,List.getElem?_cons_succ,List.getElem?_nil,List.getElem?_toArray,Ψd,Ψi,ΦP,ΦA,ΦB,ΦT,ΦM,ΦW,ΦJ,ΦQ,ΦR,ΦX,ΦG,ΦH,ΦZ,ΦC,ΦD,Ψa,ΦK,Ψj,ΦS,Ψb,Ψe,Ψf,Ψg,Ψh,Ψo,exists_eq_left,exists_eq_left',exists_const,Ψs,Ψp,Ψq,cells_int,cells_bool,ΨB,Ψz,ΨD,cells_agg,oneB_nil,oneB_cons,one_int,one_bool,one_string,ΨE,one_slice,one_map,one_func,ΨF,ΨC,one_iface,cells_map,cells_func,ΨA,Ψy,ΨG,T.elA_24,T.lay_24,T.szA_24,T.zr_24,Tryd.underlying24,T.elA_49,T.lay_49,T.szA_49,T.zr_49,Tryd.underlying49,hP]
  intro bx bd br
  refine hK1 _ _ ?_
  try clear hK1 K1
  refine SX.seq_k fun K2 hK2 => ?_
  refine SX.seq_k fun K3 hK3 => ?_
  refine SX.region_x ?_
  refine RX.live [2, 3, 4, 6] (fun T1 hT1 => ?_)
  simp only [ΨH,forall_mem_nil',ΦY,Φy,Φz,ΦL,ev,Φi,Φv,Φs,Φt,Φx,Φw,Φd,Φn,reduceIte,reduceCtorEq,if_true,if_false,Φo,Φk,Φa,Φb,true_and,and_true,false_and,and_false,true_implies,forall_const,false_implies,ne_eq,not_true_eq_false,not_false_eq_true,decide_true,decide_false,Φu,and_self,true_or,or_true,dite_true,dite_false,Φe,Φc,decide_eq_true_eq,decide_eq_false_iff_not,Φf,Φh,Φg,Φj,beq_self_eq_true,Φp,Φq,Φr,Φl,Φm,eq_self,hP] at hT1
  obtain ⟨h1_2, h1_3, h1_4, h1_6⟩ := hT1
  refine RX.join 7 (fun (ss : Unit) T L' => T 14 = .bool (!okB l c g || decide (3 < m)) ∧ T 2 = T1 2 ∧ T 3 = T1 3 ∧ T 4 = T1 4 ∧ T 6 = T1 6 ∧ L' = some (br, .cells #[.int .i64 0, .int .i64 0, .bool false, .int .i64 0] 24 (0, 0)) :: some (bd, .cells #[.int .u8 code, .int .u16 ad, .bool rd, .bool wr, .bool own, .int .u8 data, .int .u8 port, .bool pulse] 49 (0, 0)) :: some (bx, .cells #[.int .i64 l, .int .i64 c, .bool o, .int .i64 g] 24 (0, 0)) :: L ∧ (True)) (fun K4 hK4 => ?_) ?_
  · simp only [h1_2, h1_3, h1_4, h1_6] at hK4
    simp (maxSteps := 1000000) only [ΦY,Φy,Φz,ΦL,ev,Φi,Φv,Φs,Φt,Φx,Φw,Φd,Φn,reduceIte,reduceCtorEq,if_true,if_false,Φo,Φk,Φa,Φb,true_and,and_true,false_and,and_false,true_implies,forall_const,false_implies,ne_eq,not_true_eq_false,not_false_eq_true,decide_true,decide_false,Φu,and_self,true_or,or_true,dite_true,dite_false,Φe,Φc,decide_eq_true_eq,decide_eq_false_iff_not,Φf,Φh,Φg,Φj,beq_self_eq_true,Φp,Φq,Φr,Φl,Φm,eq_self,Ψx,Ψm,Ψn,VCops,VQops,Ψv,putVC,VC,VQ,ΦU,ΦV,ΦN,ΦO,ΦE,ΦF,ΦI,List.getElem?_cons_zero,List.getElem?_cons_succ,List.getElem?_nil,List.getElem?_toArray,Ψd,Ψi,ΦP,ΦA,ΦB,ΦT,ΦM,ΦW,ΦJ,ΦQ,ΦR,ΦX,ΦG,ΦH,ΦZ,ΦC,ΦD,Ψa,ΦK,Ψj,ΦS,Ψb,Ψe,Ψf,Ψg,Ψh,Ψo,exists_eq_left,exists_eq_left',exists_const,Ψs,Ψp,Ψq,ld_ptr,loadVC,loadN,Ψu,Ψl,Ψw,Ψc,Ψr,Ψt,Ψk,T.elA_24,T.lay_24,T.szA_24,T.zr_24,Tryd.underlying24,qcall_f,call_f,len_slice,len_str,cap_slice,min_int,max_int,T.callable_33,bin_neq,bin_neqb,bin_neqs,bin_neqa,T.szA_31,T.zr_31,Tryd.underlying31,bin_gtr,pick_bool,hP,h1_2,h1_3,h1_4,h1_6,chk_zero]
    repeat' (first | refine iteB (fun hg => ?_) (fun hg => ?_) | refine iteI (fun hg => ?_) (fun hg => ?_) | ((first | (refine SCall.mono (refCheck_spec hP) ?_; rintro v_ L_ ⟨hv_, hL_⟩; rw [hv_, hL_]; clear hv_ hL_ v_ L_) | refine And.intro (by omega) ?_ | refine ⟨_, Cell.at 0 rfl rfl, _, Cell.at 0 rfl rfl, _, Cell.at 0 rfl rfl, _, Cell.at 0 rfl rfl, ?_⟩ | refine ⟨_, Cell.at 1 rfl rfl, _, Cell.at 1 rfl rfl, _, Cell.at 1 rfl rfl, _, Cell.at 1 rfl rfl, ?_⟩ | refine ⟨_, Cell.at 2 rfl rfl, _, Cell.at 2 rfl rfl, _, Cell.at 2 rfl rfl, _, Cell.at 2 rfl rfl, ?_⟩ | refine ⟨_, Cell.at 0 rfl rfl, ?_⟩ | refine ⟨_, Cell.at 1 rfl rfl, ?_⟩ | refine ⟨_, Cell.at 2 rfl rfl, ?_⟩ | fail); try simp (maxSteps := 1000000) only [ΦY,Φy,Φz,ΦL,ev,Φi,Φv,Φs,Φt,Φx,Φw,Φd,Φn,reduceIte,reduceCtorEq,if_true,if_false,Φo,Φk,Φa,Φb,true_and,and_true,false_and,and_false,true_implies,forall_const,false_implies,ne_eq,not_true_eq_false,not_false_eq_true,decide_true,decide_false,Φu,and_self,true_or,or_true,dite_true,dite_false,Φe,Φc,decide_eq_true_eq,decide_eq_false_iff_not,Φf,Φh,Φg,Φj,beq_self_eq_true,Φp,Φq,Φr,Φl,Φm,eq_self,Ψx,Ψm,Ψn,VCops,VQops,Ψv,putVC,VC,VQ,ΦU,ΦV,ΦN,ΦO,ΦE,ΦF,ΦI,List.getElem?_cons_zero,List.getElem?_cons_succ,List.getElem?_nil,List.getElem?_toArray,Ψd,Ψi,ΦP,ΦA,ΦB,ΦT,ΦM,ΦW,ΦJ,ΦQ,ΦR,ΦX,ΦG,ΦH,ΦZ,ΦC,ΦD,Ψa,ΦK,Ψj,ΦS,Ψb,Ψe,Ψf,Ψg,Ψh,Ψo,exists_eq_left,exists_eq_left',exists_const,Ψs,Ψp,Ψq,ld_ptr,loadVC,loadN,Ψu,Ψl,Ψw,Ψc,Ψr,Ψt,Ψk,T.elA_24,T.lay_24,T.szA_24,T.zr_24,Tryd.underlying24,qcall_f,call_f,len_slice,len_str,cap_slice,min_int,max_int,T.callable_33,bin_neq,bin_neqb,bin_neqs,bin_neqa,T.szA_31,T.zr_31,Tryd.underlying31,bin_gtr,pick_bool,hP,h1_2,h1_3,h1_4,h1_6,chk_zero]) | fail)
    all_goals
      refine hK4 () _ (some (br, .cells #[.int .i64 0, .int .i64 0, .bool false, .int .i64 0] 24 (0, 0)) :: some (bd, .cells #[.int .u8 code, .int .u16 ad, .bool rd, .bool wr, .bool own, .int .u8 data, .int .u8 port, .bool pulse] 49 (0, 0)) :: some (bx, .cells #[.int .i64 l, .int .i64 c, .bool o, .int .i64 g] 24 (0, 0)) :: L) _ (by first | exact Less.refl _ | exact Less.drop _ _ | exact Less.drops (Less.drop _ _) | exact Less.drops (Less.drops (Less.drop _ _)) | exact Less.drops (Less.drops (Less.drops (Less.drop _ _))) | exact Less.drops (Less.drops (Less.drops (Less.drops (Less.drop _ _))))) ?_
      try dsimp only
      refine ⟨?_, ?_, ?_, ?_, ?_, ?_, ?_⟩
      · simp (maxSteps := 1000000) only [ΦY,Φy,Φz,ΦL,ev,Φi,Φv,Φs,Φt,Φx,Φw,Φd,Φn,reduceIte,reduceCtorEq,if_true,if_false,Φo,Φk,Φa,Φb,true_and,and_true,false_and,and_false,true_implies,forall_const,false_implies,ne_eq,not_true_eq_false,not_false_eq_true,decide_true,decide_false,Φu,and_self,true_or,or_true,dite_true,dite_false,Φe,Φc,decide_eq_true_eq,decide_eq_false_iff_not,Φf,Φh,Φg,Φj,beq_self_eq_true,Φp,Φq,Φr,Φl,Φm,eq_self,hP,h1_2,h1_3,h1_4,h1_6]
        first | done | simp [*]
      · simp (maxSteps := 1000000) only [ΦY,Φy,Φz,ΦL,ev,Φi,Φv,Φs,Φt,Φx,Φw,Φd,Φn,reduceIte,reduceCtorEq,if_true,if_false,Φo,Φk,Φa,Φb,true_and,and_true,false_and,and_false,true_implies,forall_const,false_implies,ne_eq,not_true_eq_false,not_false_eq_true,decide_true,decide_false,Φu,and_self,true_or,or_true,dite_true,dite_false,Φe,Φc,decide_eq_true_eq,decide_eq_false_iff_not,Φf,Φh,Φg,Φj,beq_self_eq_true,Φp,Φq,Φr,Φl,Φm,eq_self,hP,h1_2,h1_3,h1_4,h1_6]
      · simp (maxSteps := 1000000) only [ΦY,Φy,Φz,ΦL,ev,Φi,Φv,Φs,Φt,Φx,Φw,Φd,Φn,reduceIte,reduceCtorEq,if_true,if_false,Φo,Φk,Φa,Φb,true_and,and_true,false_and,and_false,true_implies,forall_const,false_implies,ne_eq,not_true_eq_false,not_false_eq_true,decide_true,decide_false,Φu,and_self,true_or,or_true,dite_true,dite_false,Φe,Φc,decide_eq_true_eq,decide_eq_false_iff_not,Φf,Φh,Φg,Φj,beq_self_eq_true,Φp,Φq,Φr,Φl,Φm,eq_self,hP,h1_2,h1_3,h1_4,h1_6]
      · simp (maxSteps := 1000000) only [ΦY,Φy,Φz,ΦL,ev,Φi,Φv,Φs,Φt,Φx,Φw,Φd,Φn,reduceIte,reduceCtorEq,if_true,if_false,Φo,Φk,Φa,Φb,true_and,and_true,false_and,and_false,true_implies,forall_const,false_implies,ne_eq,not_true_eq_false,not_false_eq_true,decide_true,decide_false,Φu,and_self,true_or,or_true,dite_true,dite_false,Φe,Φc,decide_eq_true_eq,decide_eq_false_iff_not,Φf,Φh,Φg,Φj,beq_self_eq_true,Φp,Φq,Φr,Φl,Φm,eq_self,hP,h1_2,h1_3,h1_4,h1_6]
      · simp (maxSteps := 1000000) only [ΦY,Φy,Φz,ΦL,ev,Φi,Φv,Φs,Φt,Φx,Φw,Φd,Φn,reduceIte,reduceCtorEq,if_true,if_false,Φo,Φk,Φa,Φb,true_and,and_true,false_and,and_false,true_implies,forall_const,false_implies,ne_eq,not_true_eq_false,not_false_eq_true,decide_true,decide_false,Φu,and_self,true_or,or_true,dite_true,dite_false,Φe,Φc,decide_eq_true_eq,decide_eq_false_iff_not,Φf,Φh,Φg,Φj,beq_self_eq_true,Φp,Φq,Φr,Φl,Φm,eq_self,hP,h1_2,h1_3,h1_4,h1_6]
      · rfl
      · trivial
  · intro ss T2 L2 hI
    simp only [h1_2, h1_3, h1_4, h1_6] at hI 
    obtain ⟨h2_14, h2_2, h2_3, h2_4, h2_6, hL2, hinv⟩ := hI
    replace hL2 := hL2.symm
    subst hL2
    clear h1_2 h1_3 h1_4 h1_6 T1
    refine RX.done ?_
    simp (maxSteps := 1000000) only [ΦY,Φy,Φz,ΦL,ev,Φi,Φv,Φs,Φt,Φx,Φw,Φd,Φn,reduceIte,reduceCtorEq,if_true,if_false,Φo,Φk,Φa,Φb,true_and,and_true,false_and,and_false,true_implies,forall_const,false_implies,ne_eq,not_true_eq_false,not_false_eq_true,decide_true,decide_false,Φu,and_self,true_or,or_true,dite_true,dite_false,Φe,Φc,decide_eq_true_eq,decide_eq_false_iff_not,Φf,Φh,Φg,Φj,beq_self_eq_true,Φp,Φq,Φr,Φl,Φm,eq_self,Ψx,Ψm,Ψn,VCops,VQops,Ψv,putVC,VC,VQ,ΦU,ΦV,ΦN,ΦO,ΦE,ΦF,ΦI,List.getElem?_cons_zero,List.getElem?_cons_succ,List.getElem?_nil,List.getElem?_toArray,Ψd,Ψi,ΦP,ΦA,ΦB,ΦT,ΦM,ΦW,ΦJ,ΦQ,ΦR,ΦX,ΦG,ΦH,ΦZ,ΦC,ΦD,Ψa,ΦK,Ψj,ΦS,Ψb,Ψe,Ψf,Ψg,Ψh,Ψo,exists_eq_left,exists_eq_left',exists_const,Ψs,Ψp,Ψq,hP,h2_14,h2_2,h2_3,h2_4,h2_6]
    refine hK3 _ _ ?_
    try clear hK3 K3
    refine SX.cond_k fun X5 Y5 hX5 hY5 => ?_
    simp (maxSteps := 1000000) only [ΦY,Φy,Φz,ΦL,ev,Φi,Φv,Φs,Φt,Φx,Φw,Φd,Φn,reduceIte,reduceCtorEq,if_true,if_false,Φo,Φk,Φa,Φb,true_and,and_true,false_and,and_false,true_implies,forall_const,false_implies,ne_eq,not_true_eq_false,not_false_eq_true,decide_true,decide_false,Φu,and_self,true_or,or_true,dite_true,dite_false,Φe,Φc,decide_eq_true_eq,decide_eq_false_iff_not,Φf,Φh,Φg,Φj,beq_self_eq_true,Φp,Φq,Φr,Φl,Φm,eq_self,hP,h2_14,h2_2,h2_3,h2_4,h2_6,condVC]
    refine ⟨fun hc14 => hX5 ?_, fun hc14 => hY5 ?_⟩
    · clear hX5 hY5 X5 Y5
      have hn : ¬ (okB l c g = true ∧ m ≤ 3) := by rintro ⟨h1, h2⟩; rw [h1, decide_eq_false (by omega)] at hc14; exact absurd hc14 (by decide)
      refine SX.seq_k fun K6 hK6 => ?_
      refine SX.region ?_
      simp (maxSteps := 1000000) only [ΦY,Φy,Φz,ΦL,ev,Φi,Φv,Φs,Φt,Φx,Φw,Φd,Φn,reduceIte,reduceCtorEq,if_true,if_false,Φo,Φk,Φa,Φb,true_and,and_true,false_and,and_false,true_implies,forall_const,false_implies,ne_eq,not_true_eq_false,not_false_eq_true,decide_true,decide_false,Φu,and_self,true_or,or_true,dite_true,dite_false,Φe,Φc,decide_eq_true_eq,decide_eq_false_iff_not,Φf,Φh,Φg,Φj,beq_self_eq_true,Φp,Φq,Φr,Φl,Φm,eq_self,Ψx,Ψm,Ψn,VCops,VQops,Ψv,putVC,VC,VQ,ΦU,ΦV,ΦN,ΦO,ΦE,ΦF,ΦI,List.getElem?_cons_zero,List.getElem?_cons_succ,List.getElem?_nil,List.getElem?_toArray,Ψd,Ψi,ΦP,ΦA,ΦB,ΦT,ΦM,ΦW,ΦJ,ΦQ,ΦR,ΦX,ΦG,ΦH,ΦZ,ΦC,ΦD,Ψa,ΦK,Ψj,ΦS,Ψb,Ψe,Ψf,Ψg,Ψh,Ψo,exists_eq_left,exists_eq_left',exists_const,Ψs,Ψp,Ψq,partVC,buildVC,placeL,fillL,setN,cells_int,cells_bool,ΨB,Ψz,ΨD,cells_agg,oneB_nil,oneB_cons,one_int,one_bool,one_string,ΨE,one_slice,one_map,one_func,ΨF,ΨC,one_iface,cells_map,cells_func,ΨA,Ψy,ΨG,T.elA_24,T.lay_24,T.szA_24,T.zr_24,Tryd.underlying24,st_ptr,storeVC,Ψu,Ψl,Ψw,Ψc,Ψr,Ψt,Ψk,hP,h2_14,h2_2,h2_3,h2_4,h2_6]
      refine ⟨0, _, _, _, rfl, by first | decide | simp, .inr (by first | decide | simp), ?_⟩
      try simp (maxSteps := 1000000) only [ΦY,Φy,Φz,ΦL,ev,Φi,Φv,Φs,Φt,Φx,Φw,Φd,Φn,reduceIte,reduceCtorEq,if_true,if_false,Φo,Φk,Φa,Φb,true_and,and_true,false_and,and_false,true_implies,forall_const,false_implies,ne_eq,not_true_eq_false,not_false_eq_true,decide_true,decide_false,Φu,and_self,true_or,or_true,dite_true,dite_false,Φe,Φc,decide_eq_true_eq,decide_eq_false_iff_not,Φf,Φh,Φg,Φj,beq_self_eq_true,Φp,Φq,Φr,Φl,Φm,eq_self,Ψx,Ψm,Ψn,VCops,VQops,Ψv,putVC,VC,VQ,ΦU,ΦV,ΦN,ΦO,ΦE,ΦF,ΦI,List.getElem?_cons_zero,List.getElem?_cons_succ,List.getElem?_nil,List.getElem?_toArray,Ψd,Ψi,ΦP,ΦA,ΦB,ΦT,ΦM,ΦW,ΦJ,ΦQ,ΦR,ΦX,ΦG,ΦH,ΦZ,ΦC,ΦD,Ψa,ΦK,Ψj,ΦS,Ψb,Ψe,Ψf,Ψg,Ψh,Ψo,exists_eq_left,exists_eq_left',exists_const,Ψs,Ψp,Ψq,partVC,buildVC,placeL,fillL,setN,cells_int,cells_bool,ΨB,Ψz,ΨD,cells_agg,oneB_nil,oneB_cons,one_int,one_bool,one_string,ΨE,one_slice,one_map,one_func,ΨF,ΨC,one_iface,cells_map,cells_func,ΨA,Ψy,ΨG,T.elA_24,T.lay_24,T.szA_24,T.zr_24,Tryd.underlying24,st_ptr,storeVC,Ψu,Ψl,Ψw,Ψc,Ψr,Ψt,Ψk,hP,h2_14,h2_2,h2_3,h2_4,h2_6]
      refine hK6 _ _ ?_
      try clear hK6 K6
      refine SX.ret ?_
      simp only [Φi, Φv, Φs, Φt, Φx, Φw, Φd, if_true, if_false, reduceIte, retQ_ret]
      try simp only [res0,res1,res2,res3,resX,resK,oneOr,ld_ptr,loadVC,loadN,ΦT,ΦM,Ψb,Ψg,Ψh,Ψu,Ψl,Ψw,T.elA_24,T.lay_24,T.szA_24,T.zr_24,Tryd.underlying24,ΦY,Φy,Φz,ΦL,ev,Φi,Φv,Φs,Φt,Φx,Φw,Φd,Φn,reduceIte,reduceCtorEq,if_true,if_false,Φo,Φk,Φa,Φb,true_and,and_true,false_and,and_false,true_implies,forall_const,false_implies,ne_eq,not_true_eq_false,not_false_eq_true,decide_true,decide_false,Φu,and_self,true_or,or_true,dite_true,dite_false,Φe,Φc,decide_eq_true_eq,decide_eq_false_iff_not,Φf,Φh,Φg,Φj,beq_self_eq_true,Φp,Φq,Φr,Φl,Φm,eq_self,hP,h2_14,h2_2,h2_3,h2_4,h2_6]
      refine ⟨_, L, (by first | exact Less.refl _ | exact Less.drop _ _ | exact Less.drops (Less.drop _ _) | exact Less.drops (Less.drops (Less.drop _ _)) | exact Less.drops (Less.drops (Less.drops (Less.drop _ _))) | exact Less.drops (Less.drops (Less.drops (Less.drops (Less.drop _ _))))), ⟨_, Cell.at 0 rfl rfl, _, Cell.at 0 rfl rfl, _, Cell.at 0 rfl rfl, _, Cell.at 0 rfl rfl, rfl⟩, ?_, rfl⟩
      rw [step, if_neg hn]
    · clear hX5 hY5 X5 Y5
      obtain ⟨hok, hm3⟩ : okB l c g = true ∧ m ≤ 3 := by simpa using hc14
      have hk := of_decide_eq_true hok
      have w1 : IntKind.i64.wrap (g + 1) = g + 1 := w64 (by omega)
      have w2 : IntKind.i64.wrap (c + 1) = c + 1 := w64 (by omega)
      have w3 : IntKind.i64.wrap (l + 1) = l + 1 := w64 (by omega)
      refine SX.skip ?_
      simp only [Φi, Φv, Φs, Φt, Φx, Φw, Φd, if_true, if_false, reduceIte]
      refine hK2 _ _ ?_
      try clear hK2 K2
      refine SX.seq_k fun K7 hK7 => ?_
      refine SX.region ?_
      simp (maxSteps := 1000000) only [ΦY,Φy,Φz,ΦL,ev,Φi,Φv,Φs,Φt,Φx,Φw,Φd,Φn,reduceIte,reduceCtorEq,if_true,if_false,Φo,Φk,Φa,Φb,true_and,and_true,false_and,and_false,true_implies,forall_const,false_implies,ne_eq,not_true_eq_false,not_false_eq_true,decide_true,decide_false,Φu,and_self,true_or,or_true,dite_true,dite_false,Φe,Φc,decide_eq_true_eq,decide_eq_false_iff_not,Φf,Φh,Φg,Φj,beq_self_eq_true,Φp,Φq,Φr,Φl,Φm,eq_self,Ψx,Ψm,Ψn,VCops,VQops,Ψv,putVC,VC,VQ,ΦU,ΦV,ΦN,ΦO,ΦE,ΦF,ΦI,List.getElem?_cons_zero,List.getElem?_cons_succ,List.getElem?_nil,List.getElem?_toArray,Ψd,Ψi,ΦP,ΦA,ΦB,ΦT,ΦM,ΦW,ΦJ,ΦQ,ΦR,ΦX,ΦG,ΦH,ΦZ,ΦC,ΦD,Ψa,ΦK,Ψj,ΦS,Ψb,Ψe,Ψf,Ψg,Ψh,Ψo,exists_eq_left,exists_eq_left',exists_const,Ψs,Ψp,Ψq,ld_ptr,loadVC,loadN,Ψu,Ψl,Ψw,Ψc,Ψr,Ψt,Ψk,T.elA_24,T.lay_24,T.szA_24,T.zr_24,Tryd.underlying24,cells_int,cells_bool,ΨB,Ψz,ΨD,cells_agg,oneB_nil,oneB_cons,one_int,one_bool,one_string,ΨE,one_slice,one_map,one_func,ΨF,ΨC,one_iface,cells_map,cells_func,ΨA,Ψy,ΨG,st_ptr,storeVC,setN,hP,h2_14,h2_2,h2_3,h2_4,h2_6]
      refine ⟨_, Cell.at 2 rfl rfl, _, Cell.at 2 rfl rfl, _, Cell.at 2 rfl rfl, _, Cell.at 2 rfl rfl, ?_⟩
      try simp (maxSteps := 1000000) only [ΦY,Φy,Φz,ΦL,ev,Φi,Φv,Φs,Φt,Φx,Φw,Φd,Φn,reduceIte,reduceCtorEq,if_true,if_false,Φo,Φk,Φa,Φb,true_and,and_true,false_and,and_false,true_implies,forall_const,false_implies,ne_eq,not_true_eq_false,not_false_eq_true,decide_true,decide_false,Φu,and_self,true_or,or_true,dite_true,dite_false,Φe,Φc,decide_eq_true_eq,decide_eq_false_iff_not,Φf,Φh,Φg,Φj,beq_self_eq_true,Φp,Φq,Φr,Φl,Φm,eq_self,Ψx,Ψm,Ψn,VCops,VQops,Ψv,putVC,VC,VQ,ΦU,ΦV,ΦN,ΦO,ΦE,ΦF,ΦI,List.getElem?_cons_zero,List.getElem?_cons_succ,List.getElem?_nil,List.getElem?_toArray,Ψd,Ψi,ΦP,ΦA,ΦB,ΦT,ΦM,ΦW,ΦJ,ΦQ,ΦR,ΦX,ΦG,ΦH,ΦZ,ΦC,ΦD,Ψa,ΦK,Ψj,ΦS,Ψb,Ψe,Ψf,Ψg,Ψh,Ψo,exists_eq_left,exists_eq_left',exists_const,Ψs,Ψp,Ψq,ld_ptr,loadVC,loadN,Ψu,Ψl,Ψw,Ψc,Ψr,Ψt,Ψk,T.elA_24,T.lay_24,T.szA_24,T.zr_24,Tryd.underlying24,cells_int,cells_bool,ΨB,Ψz,ΨD,cells_agg,oneB_nil,oneB_cons,one_int,one_bool,one_string,ΨE,one_slice,one_map,one_func,ΨF,ΨC,one_iface,cells_map,cells_func,ΨA,Ψy,ΨG,st_ptr,storeVC,setN,hP,h2_14,h2_2,h2_3,h2_4,h2_6]
      intro bn
      refine ⟨0, _, _, _, rfl, by first | decide | simp, .inr (by first | decide | simp), ?_⟩
      try simp (maxSteps := 1000000) only [ΦY,Φy,Φz,ΦL,ev,Φi,Φv,Φs,Φt,Φx,Φw,Φd,Φn,reduceIte,reduceCtorEq,if_true,if_false,Φo,Φk,Φa,Φb,true_and,and_true,false_and,and_false,true_implies,forall_const,false_implies,ne_eq,not_true_eq_false,not_false_eq_true,decide_true,decide_false,Φu,and_self,true_or,or_true,dite_true,dite_false,Φe,Φc,decide_eq_true_eq,decide_eq_false_iff_not,Φf,Φh,Φg,Φj,beq_self_eq_true,Φp,Φq,Φr,Φl,Φm,eq_self,Ψx,Ψm,Ψn,VCops,VQops,Ψv,putVC,VC,VQ,ΦU,ΦV,ΦN,ΦO,ΦE,ΦF,ΦI,List.getElem?_cons_zero,List.getElem?_cons_succ,List.getElem?_nil,List.getElem?_toArray,Ψd,Ψi,ΦP,ΦA,ΦB,ΦT,ΦM,ΦW,ΦJ,ΦQ,ΦR,ΦX,ΦG,ΦH,ΦZ,ΦC,ΦD,Ψa,ΦK,Ψj,ΦS,Ψb,Ψe,Ψf,Ψg,Ψh,Ψo,exists_eq_left,exists_eq_left',exists_const,Ψs,Ψp,Ψq,ld_ptr,loadVC,loadN,Ψu,Ψl,Ψw,Ψc,Ψr,Ψt,Ψk,T.elA_24,T.lay_24,T.szA_24,T.zr_24,Tryd.underlying24,cells_int,cells_bool,ΨB,Ψz,ΨD,cells_agg,oneB_nil,oneB_cons,one_int,one_bool,one_string,ΨE,one_slice,one_map,one_func,ΨF,ΨC,one_iface,cells_map,cells_func,ΨA,Ψy,ΨG,st_ptr,storeVC,setN,hP,h2_14,h2_2,h2_3,h2_4,h2_6]
      refine hK7 _ _ ?_
      try clear hK7 K7
      refine SX.live [2, 3, 4, 6, 7] (fun T3 hT3 => ?_)
      simp only [ΨH,forall_mem_nil',ΦY,Φy,Φz,ΦL,ev,Φi,Φv,Φs,Φt,Φx,Φw,Φd,Φn,reduceIte,reduceCtorEq,if_true,if_false,Φo,Φk,Φa,Φb,true_and,and_true,false_and,and_false,true_implies,forall_const,false_implies,ne_eq,not_true_eq_false,not_false_eq_true,decide_true,decide_false,Φu,and_self,true_or,or_true,dite_true,dite_false,Φe,Φc,decide_eq_true_eq,decide_eq_false_iff_not,Φf,Φh,Φg,Φj,beq_self_eq_true,Φp,Φq,Φr,Φl,Φm,eq_self,hP,h2_14,h2_2,h2_3,h2_4,h2_6] at hT3
      obtain ⟨h3_2, h3_3, h3_4, h3_6, h3_7⟩ := hT3
      clear h2_14 h2_2 h2_3 h2_4 h2_6 T2
      refine SX.join (fun (ss : (Int)) T L' => (fun (g1 : Int) => T 2 = T3 2 ∧ T 4 = T3 4 ∧ T 6 = T3 6 ∧ T 7 = T3 7 ∧ L' = some (bn, .cells #[.int .i64 l, .int .i64 c, .bool o, .int .i64 g1] 24 (0, 0)) :: some (br, .cells #[.int .i64 0, .int .i64 0, .bool false, .int .i64 0] 24 (0, 0)) :: some (bd, .cells #[.int .u8 code, .int .u16 ad, .bool rd, .bool wr, .bool own, .int .u8 data, .int .u8 port, .bool pulse] 49 (0, 0)) :: some (bx, .cells #[.int .i64 l, .int .i64 c, .bool o, .int .i64 g] 24 (0, 0)) :: L ∧ (g1 = if tB l c o g code rd = true then g + 1 else g)) (ss)) (fun K8 hK8 => ?_) ?_
      · simp only [h3_2, h3_4, h3_6, h3_7] at hK8
        refine SX.seq_k fun K9 hK9 => ?_
        refine SX.region_x ?_
        refine RX.live [2, 3, 4, 6, 7] (fun T4 hT4 => ?_)
        simp only [ΨH,forall_mem_nil',ΦY,Φy,Φz,ΦL,ev,Φi,Φv,Φs,Φt,Φx,Φw,Φd,Φn,reduceIte,reduceCtorEq,if_true,if_false,Φo,Φk,Φa,Φb,true_and,and_true,false_and,and_false,true_implies,forall_const,false_implies,ne_eq,not_true_eq_false,not_false_eq_true,decide_true,decide_false,Φu,and_self,true_or,or_true,dite_true,dite_false,Φe,Φc,decide_eq_true_eq,decide_eq_false_iff_not,Φf,Φh,Φg,Φj,beq_self_eq_true,Φp,Φq,Φr,Φl,Φm,eq_self,hP,h3_2,h3_3,h3_4,h3_6,h3_7] at hT4
        obtain ⟨h4_2, h4_3, h4_4, h4_6, h4_7⟩ := hT4
        clear h3_2 h3_3 h3_4 h3_6 h3_7 T3
        refine RX.join 3 (fun (ss : Unit) T L' => T 19 = .bool (tB l c o g code rd) ∧ T 2 = T4 2 ∧ T 4 = T4 4 ∧ T 6 = T4 6 ∧ T 7 = T4 7 ∧ L' = some (bn, .cells #[.int .i64 l, .int .i64 c, .bool o, .int .i64 g] 24 (0, 0)) :: some (br, .cells #[.int .i64 0, .int .i64 0, .bool false, .int .i64 0] 24 (0, 0)) :: some (bd, .cells #[.int .u8 code, .int .u16 ad, .bool rd, .bool wr, .bool own, .int .u8 data, .int .u8 port, .bool pulse] 49 (0, 0)) :: some (bx, .cells #[.int .i64 l, .int .i64 c, .bool o, .int .i64 g] 24 (0, 0)) :: L ∧ (True)) (fun K10 hK10 => ?_) ?_
        · simp only [h4_2, h4_4, h4_6, h4_7] at hK10
          simp (maxSteps := 1000000) only [ΦY,Φy,Φz,ΦL,ev,Φi,Φv,Φs,Φt,Φx,Φw,Φd,Φn,reduceIte,reduceCtorEq,if_true,if_false,Φo,Φk,Φa,Φb,true_and,and_true,false_and,and_false,true_implies,forall_const,false_implies,ne_eq,not_true_eq_false,not_false_eq_true,decide_true,decide_false,Φu,and_self,true_or,or_true,dite_true,dite_false,Φe,Φc,decide_eq_true_eq,decide_eq_false_iff_not,Φf,Φh,Φg,Φj,beq_self_eq_true,Φp,Φq,Φr,Φl,Φm,eq_self,Ψx,Ψm,Ψn,VCops,VQops,Ψv,putVC,VC,VQ,ΦU,ΦV,ΦN,ΦO,ΦE,ΦF,ΦI,List.getElem?_cons_zero,List.getElem?_cons_succ,List.getElem?_nil,List.getElem?_toArray,Ψd,Ψi,ΦP,ΦA,ΦB,ΦT,ΦM,ΦW,ΦJ,ΦQ,ΦR,ΦX,ΦG,ΦH,ΦZ,ΦC,ΦD,Ψa,ΦK,Ψj,ΦS,Ψb,Ψe,Ψf,Ψg,Ψh,Ψo,exists_eq_left,exists_eq_left',exists_const,Ψs,Ψp,Ψq,ld_ptr,loadVC,loadN,Ψu,Ψl,Ψw,Ψc,Ψr,Ψt,Ψk,T.elA_24,T.lay_24,T.szA_24,T.zr_24,Tryd.underlying24,T.elA_49,T.lay_49,T.szA_49,T.zr_49,Tryd.underlying49,qcall_f,call_f,len_slice,len_str,cap_slice,min_int,max_int,T.callable_35,hP,h4_2,h4_3,h4_4,h4_6,h4_7]
          repeat' (first | refine iteB (fun hg => ?_) (fun hg => ?_) | refine iteI (fun hg => ?_) (fun hg => ?_) | ((first | (refine SCall.mono (refTakes_spec hP) ?_; rintro v_ L_ ⟨hv_, hL_⟩; rw [hv_, hL_]; clear hv_ hL_ v_ L_) | refine And.intro (by omega) ?_ | refine ⟨_, Cell.at 0 rfl rfl, _, Cell.at 0 rfl rfl, _, Cell.at 0 rfl rfl, _, Cell.at 0 rfl rfl, _, Cell.at 0 rfl rfl, _, Cell.at 0 rfl rfl, _, Cell.at 0 rfl rfl, _, Cell.at 0 rfl rfl, ?_⟩ | refine ⟨_, Cell.at 1 rfl rfl, _, Cell.at 1 rfl rfl, _, Cell.at 1 rfl rfl, _, Cell.at 1 rfl rfl, _, Cell.at 1 rfl rfl, _, Cell.at 1 rfl rfl, _, Cell.at 1 rfl rfl, _, Cell.at 1 rfl rfl, ?_⟩ | refine ⟨_, Cell.at 2 rfl rfl, _, Cell.at 2 rfl rfl, _, Cell.at 2 rfl rfl, _, Cell.at 2 rfl rfl, _, Cell.at 2 rfl rfl, _, Cell.at 2 rfl rfl, _, Cell.at 2 rfl rfl, _, Cell.at 2 rfl rfl, ?_⟩ | refine ⟨_, Cell.at 3 rfl rfl, _, Cell.at 3 rfl rfl, _, Cell.at 3 rfl rfl, _, Cell.at 3 rfl rfl, _, Cell.at 3 rfl rfl, _, Cell.at 3 rfl rfl, _, Cell.at 3 rfl rfl, _, Cell.at 3 rfl rfl, ?_⟩ | refine ⟨_, Cell.at 0 rfl rfl, _, Cell.at 0 rfl rfl, _, Cell.at 0 rfl rfl, _, Cell.at 0 rfl rfl, ?_⟩ | refine ⟨_, Cell.at 1 rfl rfl, _, Cell.at 1 rfl rfl, _, Cell.at 1 rfl rfl, _, Cell.at 1 rfl rfl, ?_⟩ | refine ⟨_, Cell.at 2 rfl rfl, _, Cell.at 2 rfl rfl, _, Cell.at 2 rfl rfl, _, Cell.at 2 rfl rfl, ?_⟩ | refine ⟨_, Cell.at 3 rfl rfl, _, Cell.at 3 rfl rfl, _, Cell.at 3 rfl rfl, _, Cell.at 3 rfl rfl, ?_⟩ | refine ⟨_, Cell.at 0 rfl rfl, ?_⟩ | refine ⟨_, Cell.at 1 rfl rfl, ?_⟩ | refine ⟨_, Cell.at 2 rfl rfl, ?_⟩ | refine ⟨_, Cell.at 3 rfl rfl, ?_⟩ | fail); try simp (maxSteps := 1000000) only [ΦY,Φy,Φz,ΦL,ev,Φi,Φv,Φs,Φt,Φx,Φw,Φd,Φn,reduceIte,reduceCtorEq,if_true,if_false,Φo,Φk,Φa,Φb,true_and,and_true,false_and,and_false,true_implies,forall_const,false_implies,ne_eq,not_true_eq_false,not_false_eq_true,decide_true,decide_false,Φu,and_self,true_or,or_true,dite_true,dite_false,Φe,Φc,decide_eq_true_eq,decide_eq_false_iff_not,Φf,Φh,Φg,Φj,beq_self_eq_true,Φp,Φq,Φr,Φl,Φm,eq_self,Ψx,Ψm,Ψn,VCops,VQops,Ψv,putVC,VC,VQ,ΦU,ΦV,ΦN,ΦO,ΦE,ΦF,ΦI,List.getElem?_cons_zero,List.getElem?_cons_succ,List.getElem?_nil,List.getElem?_toArray,Ψd,Ψi,ΦP,ΦA,ΦB,ΦT,ΦM,ΦW,ΦJ,ΦQ,ΦR,ΦX,ΦG,ΦH,ΦZ,ΦC,ΦD,Ψa,ΦK,Ψj,ΦS,Ψb,Ψe,Ψf,Ψg,Ψh,Ψo,exists_eq_left,exists_eq_left',exists_const,Ψs,Ψp,Ψq,ld_ptr,loadVC,loadN,Ψu,Ψl,Ψw,Ψc,Ψr,Ψt,Ψk,T.elA_24,T.lay_24,T.szA_24,T.zr_24,Tryd.underlying24,T.elA_49,T.lay_49,T.szA_49,T.zr_49,Tryd.underlying49,qcall_f,call_f,len_slice,len_str,cap_slice,min_int,max_int,T.callable_35,hP,h4_2,h4_3,h4_4,h4_6,h4_7]) | fail)
          all_goals
            refine hK10 () _ (some (bn, .cells #[.int .i64 l, .int .i64 c, .bool o, .int .i64 g] 24 (0, 0)) :: some (br, .cells #[.int .i64 0, .int .i64 0, .bool false, .int .i64 0] 24 (0, 0)) :: some (bd, .cells #[.int .u8 code, .int .u16 ad, .bool rd, .bool wr, .bool own, .int .u8 data, .int .u8 port, .bool pulse] 49 (0, 0)) :: some (bx, .cells #[.int .i64 l, .int .i64 c, .bool o, .int .i64 g] 24 (0, 0)) :: L) _ (by first | exact Less.refl _ | exact Less.drop _ _ | exact Less.drops (Less.drop _ _) | exact Less.drops (Less.drops (Less.drop _ _)) | exact Less.drops (Less.drops (Less.drops (Less.drop _ _))) | exact Less.drops (Less.drops (Less.drops (Less.drops (Less.drop _ _))))) ?_
            try dsimp only
            refine ⟨?_, ?_, ?_, ?_, ?_, ?_, ?_⟩
            · simp (maxSteps := 1000000) only [ΦY,Φy,Φz,ΦL,ev,Φi,Φv,Φs,Φt,Φx,Φw,Φd,Φn,reduceIte,reduceCtorEq,if_true,if_false,Φo,Φk,Φa,Φb,true_and,and_true,false_and,and_false,true_implies,forall_const,false_implies,ne_eq,not_true_eq_false,not_false_eq_true,decide_true,decide_false,Φu,and_self,true_or,or_true,dite_true,dite_false,Φe,Φc,decide_eq_true_eq,decide_eq_false_iff_not,Φf,Φh,Φg,Φj,beq_self_eq_true,Φp,Φq,Φr,Φl,Φm,eq_self,hP,h4_2,h4_3,h4_4,h4_6,h4_7]
              first | done | rfl
            · simp (maxSteps := 1000000) only [ΦY,Φy,Φz,ΦL,ev,Φi,Φv,Φs,Φt,Φx,Φw,Φd,Φn,reduceIte,reduceCtorEq,if_true,if_false,Φo,Φk,Φa,Φb,true_and,and_true,false_and,and_false,true_implies,forall_const,false_implies,ne_eq,not_true_eq_false,not_false_eq_true,decide_true,decide_false,Φu,and_self,true_or,or_true,dite_true,dite_false,Φe,Φc,decide_eq_true_eq,decide_eq_false_iff_not,Φf,Φh,Φg,Φj,beq_self_eq_true,Φp,Φq,Φr,Φl,Φm,eq_self,hP,h4_2,h4_3,h4_4,h4_6,h4_7]
            · simp (maxSteps := 1000000) only [ΦY,Φy,Φz,ΦL,ev,Φi,Φv,Φs,Φt,Φx,Φw,Φd,Φn,reduceIte,reduceCtorEq,if_true,if_false,Φo,Φk,Φa,Φb,true_and,and_true,false_and,and_false,true_implies,forall_const,false_implies,ne_eq,not_true_eq_false,not_false_eq_true,decide_true,decide_false,Φu,and_self,true_or,or_true,dite_true,dite_false,Φe,Φc,decide_eq_true_eq,decide_eq_false_iff_not,Φf,Φh,Φg,Φj,beq_self_eq_true,Φp,Φq,Φr,Φl,Φm,eq_self,hP,h4_2,h4_3,h4_4,h4_6,h4_7]
            · simp (maxSteps := 1000000) only [ΦY,Φy,Φz,ΦL,ev,Φi,Φv,Φs,Φt,Φx,Φw,Φd,Φn,reduceIte,reduceCtorEq,if_true,if_false,Φo,Φk,Φa,Φb,true_and,and_true,false_and,and_false,true_implies,forall_const,false_implies,ne_eq,not_true_eq_false,not_false_eq_true,decide_true,decide_false,Φu,and_self,true_or,or_true,dite_true,dite_false,Φe,Φc,decide_eq_true_eq,decide_eq_false_iff_not,Φf,Φh,Φg,Φj,beq_self_eq_true,Φp,Φq,Φr,Φl,Φm,eq_self,hP,h4_2,h4_3,h4_4,h4_6,h4_7]
            · simp (maxSteps := 1000000) only [ΦY,Φy,Φz,ΦL,ev,Φi,Φv,Φs,Φt,Φx,Φw,Φd,Φn,reduceIte,reduceCtorEq,if_true,if_false,Φo,Φk,Φa,Φb,true_and,and_true,false_and,and_false,true_implies,forall_const,false_implies,ne_eq,not_true_eq_false,not_false_eq_true,decide_true,decide_false,Φu,and_self,true_or,or_true,dite_true,dite_false,Φe,Φc,decide_eq_true_eq,decide_eq_false_iff_not,Φf,Φh,Φg,Φj,beq_self_eq_true,Φp,Φq,Φr,Φl,Φm,eq_self,hP,h4_2,h4_3,h4_4,h4_6,h4_7]
            · rfl
            · trivial
        · intro ss T5 L5 hI
          simp only [h4_2, h4_4, h4_6, h4_7] at hI 
          obtain ⟨h5_19, h5_2, h5_4, h5_6, h5_7, hL5, hinv⟩ := hI
          replace hL5 := hL5.symm
          subst hL5
          clear h4_2 h4_3 h4_4 h4_6 h4_7 T4
          refine RX.done ?_
          simp (maxSteps := 1000000) only [ΦY,Φy,Φz,ΦL,ev,Φi,Φv,Φs,Φt,Φx,Φw,Φd,Φn,reduceIte,reduceCtorEq,if_true,if_false,Φo,Φk,Φa,Φb,true_and,and_true,false_and,and_false,true_implies,forall_const,false_implies,ne_eq,not_true_eq_false,not_false_eq_true,decide_true,decide_false,Φu,and_self,true_or,or_true,dite_true,dite_false,Φe,Φc,decide_eq_true_eq,decide_eq_false_iff_not,Φf,Φh,Φg,Φj,beq_self_eq_true,Φp,Φq,Φr,Φl,Φm,eq_self,Ψx,Ψm,Ψn,VCops,VQops,Ψv,putVC,VC,VQ,ΦU,ΦV,ΦN,ΦO,ΦE,ΦF,ΦI,List.getElem?_cons_zero,List.getElem?_cons_succ,List.getElem?_nil,List.getElem?_toArray,Ψd,Ψi,ΦP,ΦA,ΦB,ΦT,ΦM,ΦW,ΦJ,ΦQ,ΦR,ΦX,ΦG,ΦH,ΦZ,ΦC,ΦD,Ψa,ΦK,Ψj,ΦS,Ψb,Ψe,Ψf,Ψg,Ψh,Ψo,exists_eq_left,exists_eq_left',exists_const,Ψs,Ψp,Ψq,hP,h5_19,h5_2,h5_4,h5_6,h5_7]
          refine hK9 _ _ ?_
          try clear hK9 K9
          refine SX.cond_k fun X11 Y11 hX11 hY11 => ?_
          simp (maxSteps := 1000000) only [ΦY,Φy,Φz,ΦL,ev,Φi,Φv,Φs,Φt,Φx,Φw,Φd,Φn,reduceIte,reduceCtorEq,if_true,if_false,Φo,Φk,Φa,Φb,true_and,and_true,false_and,and_false,true_implies,forall_const,false_implies,ne_eq,not_true_eq_false,not_false_eq_true,decide_true,decide_false,Φu,and_self,true_or,or_true,dite_true,dite_false,Φe,Φc,decide_eq_true_eq,decide_eq_false_iff_not,Φf,Φh,Φg,Φj,beq_self_eq_true,Φp,Φq,Φr,Φl,Φm,eq_self,hP,h5_19,h5_2,h5_4,h5_6,h5_7,condVC]
          refine ⟨fun hc19 => hX11 ?_, fun hc19 => hY11 ?_⟩
          · clear hX11 hY11 X11 Y11
            refine SX.region ?_
            simp (maxSteps := 1000000) only [ΦY,Φy,Φz,ΦL,ev,Φi,Φv,Φs,Φt,Φx,Φw,Φd,Φn,reduceIte,reduceCtorEq,if_true,if_false,Φo,Φk,Φa,Φb,true_and,and_true,false_and,and_false,true_implies,forall_const,false_implies,ne_eq,not_true_eq_false,not_false_eq_true,decide_true,decide_false,Φu,and_self,true_or,or_true,dite_true,dite_false,Φe,Φc,decide_eq_true_eq,decide_eq_false_iff_not,Φf,Φh,Φg,Φj,beq_self_eq_true,Φp,Φq,Φr,Φl,Φm,eq_self,Ψx,Ψm,Ψn,VCops,VQops,Ψv,putVC,VC,VQ,ΦU,ΦV,ΦN,ΦO,ΦE,ΦF,ΦI,List.getElem?_cons_zero,List.getElem?_cons_succ,List.getElem?_nil,List.getElem?_toArray,Ψd,Ψi,ΦP,ΦA,ΦB,ΦT,ΦM,ΦW,ΦJ,ΦQ,ΦR,ΦX,ΦG,ΦH,ΦZ,ΦC,ΦD,Ψa,ΦK,Ψj,ΦS,Ψb,Ψe,Ψf,Ψg,Ψh,Ψo,exists_eq_left,exists_eq_left',exists_const,Ψs,Ψp,Ψq,fa_ptr,Ψu,Ψl,Ψw,Ψc,Ψr,Ψt,Ψk,T.elA_24,T.lay_24,T.szA_24,T.zr_24,Tryd.underlying24,ld_ptr,loadVC,loadN,T.szA_3,T.zr_3,Tryd.underlying3,bin_add,bin_adds,st_ptr,storeVC,setN,cells_int,cells_bool,ΨB,Ψz,ΨD,cells_agg,oneB_nil,oneB_cons,one_int,one_bool,one_string,ΨE,one_slice,one_map,one_func,ΨF,ΨC,one_iface,cells_map,cells_func,ΨA,Ψy,ΨG,hP,h5_19,h5_2,h5_4,h5_6,h5_7,w1]
            refine ⟨_, Cell.at 0 rfl rfl, ?_⟩
            try simp (maxSteps := 1000000) only [ΦY,Φy,Φz,ΦL,ev,Φi,Φv,Φs,Φt,Φx,Φw,Φd,Φn,reduceIte,reduceCtorEq,if_true,if_false,Φo,Φk,Φa,Φb,true_and,and_true,false_and,and_false,true_implies,forall_const,false_implies,ne_eq,not_true_eq_false,not_false_eq_true,decide_true,decide_false,Φu,and_self,true_or,or_true,dite_true,dite_false,Φe,Φc,decide_eq_true_eq,decide_eq_false_iff_not,Φf,Φh,Φg,Φj,beq_self_eq_true,Φp,Φq,Φr,Φl,Φm,eq_self,Ψx,Ψm,Ψn,VCops,VQops,Ψv,putVC,VC,VQ,ΦU,ΦV,ΦN,ΦO,ΦE,ΦF,ΦI,List.getElem?_cons_zero,List.getElem?_cons_succ,List.getElem?_nil,List.getElem?_toArray,Ψd,Ψi,ΦP,ΦA,ΦB,ΦT,ΦM,ΦW,ΦJ,ΦQ,ΦR,ΦX,ΦG,ΦH,ΦZ,ΦC,ΦD,Ψa,ΦK,Ψj,ΦS,Ψb,Ψe,Ψf,Ψg,Ψh,Ψo,exists_eq_left,exists_eq_left',exists_const,Ψs,Ψp,Ψq,fa_ptr,Ψu,Ψl,Ψw,Ψc,Ψr,Ψt,Ψk,T.elA_24,T.lay_24,T.szA_24,T.zr_24,Tryd.underlying24,ld_ptr,loadVC,loadN,T.szA_3,T.zr_3,Tryd.underlying3,bin_add,bin_adds,st_ptr,storeVC,setN,cells_int,cells_bool,ΨB,Ψz,ΨD,cells_agg,oneB_nil,oneB_cons,one_int,one_bool,one_string,ΨE,one_slice,one_map,one_func,ΨF,ΨC,one_iface,cells_map,cells_func,ΨA,Ψy,ΨG,hP,h5_19,h5_2,h5_4,h5_6,h5_7,w1]
            refine ⟨0, _, _, _, rfl, by first | decide | simp, .inr (by first | decide | simp), ?_⟩
            try simp (maxSteps := 1000000) only [ΦY,Φy,Φz,ΦL,ev,Φi,Φv,Φs,Φt,Φx,Φw,Φd,Φn,reduceIte,reduceCtorEq,if_true,if_false,Φo,Φk,Φa,Φb,true_and,and_true,false_and,and_false,true_implies,forall_const,false_implies,ne_eq,not_true_eq_false,not_false_eq_true,decide_true,decide_false,Φu,and_self,true_or,or_true,dite_true,dite_false,Φe,Φc,decide_eq_true_eq,decide_eq_false_iff_not,Φf,Φh,Φg,Φj,beq_self_eq_true,Φp,Φq,Φr,Φl,Φm,eq_self,Ψx,Ψm,Ψn,VCops,VQops,Ψv,putVC,VC,VQ,ΦU,ΦV,ΦN,ΦO,ΦE,ΦF,ΦI,List.getElem?_cons_zero,List.getElem?_cons_succ,List.getElem?_nil,List.getElem?_toArray,Ψd,Ψi,ΦP,ΦA,ΦB,ΦT,ΦM,ΦW,ΦJ,ΦQ,ΦR,ΦX,ΦG,ΦH,ΦZ,ΦC,ΦD,Ψa,ΦK,Ψj,ΦS,Ψb,Ψe,Ψf,Ψg,Ψh,Ψo,exists_eq_left,exists_eq_left',exists_const,Ψs,Ψp,Ψq,fa_ptr,Ψu,Ψl,Ψw,Ψc,Ψr,Ψt,Ψk,T.elA_24,T.lay_24,T.szA_24,T.zr_24,Tryd.underlying24,ld_ptr,loadVC,loadN,T.szA_3,T.zr_3,Tryd.underlying3,bin_add,bin_adds,st_ptr,storeVC,setN,cells_int,cells_bool,ΨB,Ψz,ΨD,cells_agg,oneB_nil,oneB_cons,one_int,one_bool,one_string,ΨE,one_slice,one_map,one_func,ΨF,ΨC,one_iface,cells_map,cells_func,ΨA,Ψy,ΨG,hP,h5_19,h5_2,h5_4,h5_6,h5_7,w1]
            refine hK8 (g + 1) _ (some (bn, .cells #[.int .i64 l, .int .i64 c, .bool o, .int .i64 ((g + 1))] 24 (0, 0)) :: some (br, .cells #[.int .i64 0, .int .i64 0, .bool false, .int .i64 0] 24 (0, 0)) :: some (bd, .cells #[.int .u8 code, .int .u16 ad, .bool rd, .bool wr, .bool own, .int .u8 data, .int .u8 port, .bool pulse] 49 (0, 0)) :: some (bx, .cells #[.int .i64 l, .int .i64 c, .bool o, .int .i64 g] 24 (0, 0)) :: L) _ (by first | exact Less.refl _ | exact Less.drop _ _ | exact Less.drops (Less.drop _ _) | exact Less.drops (Less.drops (Less.drop _ _)) | exact Less.drops (Less.drops (Less.drops (Less.drop _ _))) | exact Less.drops (Less.drops (Less.drops (Less.drops (Less.drop _ _))))) ?_
            try dsimp only
            refine ⟨?_, ?_, ?_, ?_, ?_, ?_⟩
            · simp (maxSteps := 1000000) only [ΦY,Φy,Φz,ΦL,ev,Φi,Φv,Φs,Φt,Φx,Φw,Φd,Φn,reduceIte,reduceCtorEq,if_true,if_false,Φo,Φk,Φa,Φb,true_and,and_true,false_and,and_false,true_implies,forall_const,false_implies,ne_eq,not_true_eq_false,not_false_eq_true,decide_true,decide_false,Φu,and_self,true_or,or_true,dite_true,dite_false,Φe,Φc,decide_eq_true_eq,decide_eq_false_iff_not,Φf,Φh,Φg,Φj,beq_self_eq_true,Φp,Φq,Φr,Φl,Φm,eq_self,hP,h5_19,h5_2,h5_4,h5_6,h5_7]
            · simp (maxSteps := 1000000) only [ΦY,Φy,Φz,ΦL,ev,Φi,Φv,Φs,Φt,Φx,Φw,Φd,Φn,reduceIte,reduceCtorEq,if_true,if_false,Φo,Φk,Φa,Φb,true_and,and_true,false_and,and_false,true_implies,forall_const,false_implies,ne_eq,not_true_eq_false,not_false_eq_true,decide_true,decide_false,Φu,and_self,true_or,or_true,dite_true,dite_false,Φe,Φc,decide_eq_true_eq,decide_eq_false_iff_not,Φf,Φh,Φg,Φj,beq_self_eq_true,Φp,Φq,Φr,Φl,Φm,eq_self,hP,h5_19,h5_2,h5_4,h5_6,h5_7]
            · simp (maxSteps := 1000000) only [ΦY,Φy,Φz,ΦL,ev,Φi,Φv,Φs,Φt,Φx,Φw,Φd,Φn,reduceIte,reduceCtorEq,if_true,if_false,Φo,Φk,Φa,Φb,true_and,and_true,false_and,and_false,true_implies,forall_const,false_implies,ne_eq,not_true_eq_false,not_false_eq_true,decide_true,decide_false,Φu,and_self,true_or,or_true,dite_true,dite_false,Φe,Φc,decide_eq_true_eq,decide_eq_false_iff_not,Φf,Φh,Φg,Φj,beq_self_eq_true,Φp,Φq,Φr,Φl,Φm,eq_self,hP,h5_19,h5_2,h5_4,h5_6,h5_7]
            · simp (maxSteps := 1000000) only [ΦY,Φy,Φz,ΦL,ev,Φi,Φv,Φs,Φt,Φx,Φw,Φd,Φn,reduceIte,reduceCtorEq,if_true,if_false,Φo,Φk,Φa,Φb,true_and,and_true,false_and,and_false,true_implies,forall_const,false_implies,ne_eq,not_true_eq_false,not_false_eq_true,decide_true,decide_false,Φu,and_self,true_or,or_true,dite_true,dite_false,Φe,Φc,decide_eq_true_eq,decide_eq_false_iff_not,Φf,Φh,Φg,Φj,beq_self_eq_true,Φp,Φq,Φr,Φl,Φm,eq_self,hP,h5_19,h5_2,h5_4,h5_6,h5_7]
            · rfl
            · rw [hc19]; rfl
          · clear hX11 hY11 X11 Y11
            refine SX.skip ?_
            simp only [Φi, Φv, Φs, Φt, Φx, Φw, Φd, if_true, if_false, reduceIte]
            refine hK8 g _ (some (bn, .cells #[.int .i64 l, .int .i64 c, .bool o, .int .i64 g] 24 (0, 0)) :: some (br, .cells #[.int .i64 0, .int .i64 0, .bool false, .int .i64 0] 24 (0, 0)) :: some (bd, .cells #[.int .u8 code, .int .u16 ad, .bool rd, .bool wr, .bool own, .int .u8 data, .int .u8 port, .bool pulse] 49 (0, 0)) :: some (bx, .cells #[.int .i64 l, .int .i64 c, .bool o, .int .i64 g] 24 (0, 0)) :: L) _ (by first | exact Less.refl _ | exact Less.drop _ _ | exact Less.drops (Less.drop _ _) | exact Less.drops (Less.drops (Less.drop _ _)) | exact Less.drops (Less.drops (Less.drops (Less.drop _ _))) | exact Less.drops (Less.drops (Less.drops (Less.drops (Less.drop _ _))))) ?_
            try dsimp only
            refine ⟨?_, ?_, ?_, ?_, ?_, ?_⟩
            · simp (maxSteps := 1000000) only [ΦY,Φy,Φz,ΦL,ev,Φi,Φv,Φs,Φt,Φx,Φw,Φd,Φn,reduceIte,reduceCtorEq,if_true,if_false,Φo,Φk,Φa,Φb,true_and,and_true,false_and,and_false,true_implies,forall_const,false_implies,ne_eq,not_true_eq_false,not_false_eq_true,decide_true,decide_false,Φu,and_self,true_or,or_true,dite_true,dite_false,Φe,Φc,decide_eq_true_eq,decide_eq_false_iff_not,Φf,Φh,Φg,Φj,beq_self_eq_true,Φp,Φq,Φr,Φl,Φm,eq_self,hP,h5_19,h5_2,h5_4,h5_6,h5_7]
            · simp (maxSteps := 1000000) only [ΦY,Φy,Φz,ΦL,ev,Φi,Φv,Φs,Φt,Φx,Φw,Φd,Φn,reduceIte,reduceCtorEq,if_true,if_false,Φo,Φk,Φa,Φb,true_and,and_true,false_and,and_false,true_implies,forall_const,false_implies,ne_eq,not_true_eq_false,not_false_eq_true,decide_true,decide_false,Φu,and_self,true_or,or_true,dite_true,dite_false,Φe,Φc,decide_eq_true_eq,decide_eq_false_iff_not,Φf,Φh,Φg,Φj,beq_self_eq_true,Φp,Φq,Φr,Φl,Φm,eq_self,hP,h5_19,h5_2,h5_4,h5_6,h5_7]
            · simp (maxSteps := 1000000) only [ΦY,Φy,Φz,ΦL,ev,Φi,Φv,Φs,Φt,Φx,Φw,Φd,Φn,reduceIte,reduceCtorEq,if_true,if_false,Φo,Φk,Φa,Φb,true_and,and_true,false_and,and_false,true_implies,forall_const,false_implies,ne_eq,not_true_eq_false,not_false_eq_true,decide_true,decide_false,Φu,and_self,true_or,or_true,dite_true,dite_false,Φe,Φc,decide_eq_true_eq,decide_eq_false_iff_not,Φf,Φh,Φg,Φj,beq_self_eq_true,Φp,Φq,Φr,Φl,Φm,eq_self,hP,h5_19,h5_2,h5_4,h5_6,h5_7]
            · simp (maxSteps := 1000000) only [ΦY,Φy,Φz,ΦL,ev,Φi,Φv,Φs,Φt,Φx,Φw,Φd,Φn,reduceIte,reduceCtorEq,if_true,if_false,Φo,Φk,Φa,Φb,true_and,and_true,false_and,and_false,true_implies,forall_const,false_implies,ne_eq,not_true_eq_false,not_false_eq_true,decide_true,decide_false,Φu,and_self,true_or,or_true,dite_true,dite_false,Φe,Φc,decide_eq_true_eq,decide_eq_false_iff_not,Φf,Φh,Φg,Φj,beq_self_eq_true,Φp,Φq,Φr,Φl,Φm,eq_self,hP,h5_19,h5_2,h5_4,h5_6,h5_7]
            · rfl
            · rw [hc19]; rfl
      · intro g1 T6 L6 hI
        try dsimp only at hI 
        simp only [h3_2, h3_4, h3_6, h3_7] at hI 
        obtain ⟨h6_2, h6_4, h6_6, h6_7, hL6, hg1⟩ := hI
        replace hL6 := hL6.symm
        subst hL6
        clear h3_2 h3_3 h3_4 h3_6 h3_7 T3
        refine SX.live [2, 4, 6, 7] (fun T7 hT7 => ?_)
        simp only [ΨH,forall_mem_nil',ΦY,Φy,Φz,ΦL,ev,Φi,Φv,Φs,Φt,Φx,Φw,Φd,Φn,reduceIte,reduceCtorEq,if_true,if_false,Φo,Φk,Φa,Φb,true_and,and_true,false_and,and_false,true_implies,forall_const,false_implies,ne_eq,not_true_eq_false,not_false_eq_true,decide_true,decide_false,Φu,and_self,true_or,or_true,dite_true,dite_false,Φe,Φc,decide_eq_true_eq,decide_eq_false_iff_not,Φf,Φh,Φg,Φj,beq_self_eq_true,Φp,Φq,Φr,Φl,Φm,eq_self,hP,h6_2,h6_4,h6_6,h6_7] at hT7
        obtain ⟨h7_2, h7_4, h7_6, h7_7⟩ := hT7
        clear h6_2 h6_4 h6_6 h6_7 T6
        refine SX.join (fun (ss : (Bool)) T L' => (fun (o1 : Bool) => T 6 = T7 6 ∧ T 7 = T7 7 ∧ L' = some (bn, .cells #[.int .i64 l, .int .i64 c, .bool o1, .int .i64 g1] 24 (0, 0)) :: some (br, .cells #[.int .i64 0, .int .i64 0, .bool false, .int .i64 0] 24 (0, 0)) :: some (bd, .cells #[.int .u8 code, .int .u16 ad, .bool rd, .bool wr, .bool own, .int .u8 data, .int .u8 port, .bool pulse] 49 (0, 0)) :: some (bx, .cells #[.int .i64 l, .int .i64 c, .bool o, .int .i64 g] 24 (0, 0)) :: L ∧ (o1 = onB o port rd wr m)) (ss)) (fun K12 hK12 => ?_) ?_
        · simp only [h7_6, h7_7] at hK12
          refine SX.seq_k fun K13 hK13 => ?_
          refine SX.region_x ?_
          refine RX.live [2, 4, 6, 7] (fun T8 hT8 => ?_)
          simp only [ΨH,forall_mem_nil',ΦY,Φy,Φz,ΦL,ev,Φi,Φv,Φs,Φt,Φx,Φw,Φd,Φn,reduceIte,reduceCtorEq,if_true,if_false,Φo,Φk,Φa,Φb,true_and,and_true,false_and,and_false,true_implies,forall_const,false_implies,ne_eq,not_true_eq_false,not_false_eq_true,decide_true,decide_false,Φu,and_self,true_or,or_true,dite_true,dite_false,Φe,Φc,decide_eq_true_eq,decide_eq_false_iff_not,Φf,Φh,Φg,Φj,beq_self_eq_true,Φp,Φq,Φr,Φl,Φm,eq_self,hP,h7_2,h7_4,h7_6,h7_7] at hT8
          obtain ⟨h8_2, h8_4, h8_6, h8_7⟩ := hT8
          clear h7_2 h7_4 h7_6 h7_7 T7
          refine RX.join 6 (fun (ss : Unit) T L' => T 29 = .bool (decide (m = 2 ∨ m = 3)) ∧ T 4 = T8 4 ∧ T 6 = T8 6 ∧ T 7 = T8 7 ∧ L' = some (bn, .cells #[.int .i64 l, .int .i64 c, .bool o, .int .i64 g1] 24 (0, 0)) :: some (br, .cells #[.int .i64 0, .int .i64 0, .bool false, .int .i64 0] 24 (0, 0)) :: some (bd, .cells #[.int .u8 code, .int .u16 ad, .bool rd, .bool wr, .bool own, .int .u8 data, .int .u8 port, .bool pulse] 49 (0, 0)) :: some (bx, .cells #[.int .i64 l, .int .i64 c, .bool o, .int .i64 g] 24 (0, 0)) :: L ∧ (True)) (fun K14 hK14 => ?_) ?_
          · simp only [h8_4, h8_6, h8_7] at hK14
            simp (maxSteps := 1000000) only [ΦY,Φy,Φz,ΦL,ev,Φi,Φv,Φs,Φt,Φx,Φw,Φd,Φn,reduceIte,reduceCtorEq,if_true,if_false,Φo,Φk,Φa,Φb,true_and,and_true,false_and,and_false,true_implies,forall_const,false_implies,ne_eq,not_true_eq_false,not_false_eq_true,decide_true,decide_false,Φu,and_self,true_or,or_true,dite_true,dite_false,Φe,Φc,decide_eq_true_eq,decide_eq_false_iff_not,Φf,Φh,Φg,Φj,beq_self_eq_true,Φp,Φq,Φr,Φl,Φm,eq_self,Ψx,Ψm,Ψn,VCops,VQops,Ψv,putVC,VC,VQ,ΦU,ΦV,ΦN,ΦO,ΦE,ΦF,ΦI,List.getElem?_cons_zero,List.getElem?_cons_succ,List.getElem?_nil,List.getElem?_toArray,Ψd,Ψi,ΦP,ΦA,ΦB,ΦT,ΦM,ΦW,ΦJ,ΦQ,ΦR,ΦX,ΦG,ΦH,ΦZ,ΦC,ΦD,Ψa,ΦK,Ψj,ΦS,Ψb,Ψe,Ψf,Ψg,Ψh,Ψo,exists_eq_left,exists_eq_left',exists_const,Ψs,Ψp,Ψq,bin_eql,bin_eqlb,bin_eqls,bin_eqla,T.szA_27,T.zr_27,Tryd.underlying27,pick_bool,hP,h8_2,h8_4,h8_6,h8_7]
            repeat' (first | refine iteB (fun hg => ?_) (fun hg => ?_) | refine iteI (fun hg => ?_) (fun hg => ?_) | ((first | refine And.intro (by omega) ?_ | refine ⟨_, Cell.at 0 rfl rfl, ?_⟩ | refine ⟨_, Cell.at 1 rfl rfl, ?_⟩ | refine ⟨_, Cell.at 2 rfl rfl, ?_⟩ | refine ⟨_, Cell.at 3 rfl rfl, ?_⟩ | fail); try simp (maxSteps := 1000000) only [ΦY,Φy,Φz,ΦL,ev,Φi,Φv,Φs,Φt,Φx,Φw,Φd,Φn,reduceIte,reduceCtorEq,if_true,if_false,Φo,Φk,Φa,Φb,true_and,and_true,false_and,and_false,true_implies,forall_const,false_implies,ne_eq,not_true_eq_false,not_false_eq_true,decide_true,decide_false,Φu,and_self,true_or,or_true,dite_true,dite_false,Φe,Φc,decide_eq_true_eq,decide_eq_false_iff_not,Φf,Φh,Φg,Φj,beq_self_eq_true,Φp,Φq,Φr,Φl,Φm,eq_self,Ψx,Ψm,Ψn,VCops,VQops,Ψv,putVC,VC,VQ,ΦU,ΦV,ΦN,ΦO,ΦE,ΦF,ΦI,List.getElem?_cons_zero,List.getElem?_cons_succ,List.getElem?_nil,List.getElem?_toArray,Ψd,Ψi,ΦP,ΦA,ΦB,ΦT,ΦM,ΦW,ΦJ,ΦQ,ΦR,ΦX,ΦG,ΦH,ΦZ,ΦC,ΦD,Ψa,ΦK,Ψj,ΦS,Ψb,Ψe,Ψf,Ψg,Ψh,Ψo,exists_eq_left,exists_eq_left',exists_const,Ψs,Ψp,Ψq,bin_eql,bin_eqlb,bin_eqls,bin_eqla,T.szA_27,T.zr_27,Tryd.underlying27,pick_bool,hP,h8_2,h8_4,h8_6,h8_7]) | fail)
            all_goals
              refine hK14 () _ (some (bn, .cells #[.int .i64 l, .int .i64 c, .bool o, .int .i64 g1] 24 (0, 0)) :: some (br, .cells #[.int .i64 0, .int .i64 0, .bool false, .int .i64 0] 24 (0, 0)) :: some (bd, .cells #[.int .u8 code, .int .u16 ad, .bool rd, .bool wr, .bool own, .int .u8 data, .int .u8 port, .bool pulse] 49 (0, 0)) :: some (bx, .cells #[.int .i64 l, .int .i64 c, .bool o, .int .i64 g] 24 (0, 0)) :: L) _ (by first | exact Less.refl _ | exact Less.drop _ _ | exact Less.drops (Less.drop _ _) | exact Less.drops (Less.drops (Less.drop _ _)) | exact Less.drops (Less.drops (Less.drops (Less.drop _ _))) | exact Less.drops (Less.drops (Less.drops (Less.drops (Less.drop _ _))))) ?_
              try dsimp only
              refine ⟨?_, ?_, ?_, ?_, ?_, ?_⟩
              · simp (maxSteps := 1000000) only [ΦY,Φy,Φz,ΦL,ev,Φi,Φv,Φs,Φt,Φx,Φw,Φd,Φn,reduceIte,reduceCtorEq,if_true,if_false,Φo,Φk,Φa,Φb,true_and,and_true,false_and,and_false,true_implies,forall_const,false_implies,ne_eq,not_true_eq_false,not_false_eq_true,decide_true,decide_false,Φu,and_self,true_or,or_true,dite_true,dite_false,Φe,Φc,decide_eq_true_eq,decide_eq_false_iff_not,Φf,Φh,Φg,Φj,beq_self_eq_true,Φp,Φq,Φr,Φl,Φm,eq_self,hP,h8_2,h8_4,h8_6,h8_7]
                first | done | exact congrArg _ (decide_eq_decide.2 (by omega)) | exact congrArg _ (decide_eq_true (by omega)).symm | exact congrArg _ (decide_eq_false (by omega)).symm
              · simp (maxSteps := 1000000) only [ΦY,Φy,Φz,ΦL,ev,Φi,Φv,Φs,Φt,Φx,Φw,Φd,Φn,reduceIte,reduceCtorEq,if_true,if_false,Φo,Φk,Φa,Φb,true_and,and_true,false_and,and_false,true_implies,forall_const,false_implies,ne_eq,not_true_eq_false,not_false_eq_true,decide_true,decide_false,Φu,and_self,true_or,or_true,dite_true,dite_false,Φe,Φc,decide_eq_true_eq,decide_eq_false_iff_not,Φf,Φh,Φg,Φj,beq_self_eq_true,Φp,Φq,Φr,Φl,Φm,eq_self,hP,h8_2,h8_4,h8_6,h8_7]
              · simp (maxSteps := 1000000) only [ΦY,Φy,Φz,ΦL,ev,Φi,Φv,Φs,Φt,Φx,Φw,Φd,Φn,reduceIte,reduceCtorEq,if_true,if_false,Φo,Φk,Φa,Φb,true_and,and_true,false_and,and_false,true_implies,forall_const,false_implies,ne_eq,not_true_eq_false,not_false_eq_true,decide_true,decide_false,Φu,and_self,true_or,or_true,dite_true,dite_false,Φe,Φc,decide_eq_true_eq,decide_eq_false_iff_not,Φf,Φh,Φg,Φj,beq_self_eq_true,Φp,Φq,Φr,Φl,Φm,eq_self,hP,h8_2,h8_4,h8_6,h8_7]
              · simp (maxSteps := 1000000) only [ΦY,Φy,Φz,ΦL,ev,Φi,Φv,Φs,Φt,Φx,Φw,Φd,Φn,reduceIte,reduceCtorEq,if_true,if_false,Φo,Φk,Φa,Φb,true_and,and_true,false_and,and_false,true_implies,forall_const,false_implies,ne_eq,not_true_eq_false,not_false_eq_true,decide_true,decide_false,Φu,and_self,true_or,or_true,dite_true,dite_false,Φe,Φc,decide_eq_true_eq,decide_eq_false_iff_not,Φf,Φh,Φg,Φj,beq_self_eq_true,Φp,Φq,Φr,Φl,Φm,eq_self,hP,h8_2,h8_4,h8_6,h8_7]
              · rfl
              · trivial
          · intro ss T9 L9 hI
            simp only [h8_4, h8_6, h8_7] at hI 
            obtain ⟨h9_29, h9_4, h9_6, h9_7, hL9, hinv⟩ := hI
            replace hL9 := hL9.symm
            subst hL9
            clear h8_2 h8_4 h8_6 h8_7 T8
            refine RX.done ?_
            simp (maxSteps := 1000000) only [ΦY,Φy,Φz,ΦL,ev,Φi,Φv,Φs,Φt,Φx,Φw,Φd,Φn,reduceIte,reduceCtorEq,if_true,if_false,Φo,Φk,Φa,Φb,true_and,and_true,false_and,and_false,true_implies,forall_const,false_implies,ne_eq,not_true_eq_false,not_false_eq_true,decide_true,decide_false,Φu,and_self,true_or,or_true,dite_true,dite_false,Φe,Φc,decide_eq_true_eq,decide_eq_false_iff_not,Φf,Φh,Φg,Φj,beq_self_eq_true,Φp,Φq,Φr,Φl,Φm,eq_self,Ψx,Ψm,Ψn,VCops,VQops,Ψv,putVC,VC,VQ,ΦU,ΦV,ΦN,ΦO,ΦE,ΦF,ΦI,List.getElem?_cons_zero,List.getElem?_cons_succ,List.getElem?_nil,List.getElem?_toArray,Ψd,Ψi,ΦP,ΦA,ΦB,ΦT,ΦM,ΦW,ΦJ,ΦQ,ΦR,ΦX,ΦG,ΦH,ΦZ,ΦC,ΦD,Ψa,ΦK,Ψj,ΦS,Ψb,Ψe,Ψf,Ψg,Ψh,Ψo,exists_eq_left,exists_eq_left',exists_const,Ψs,Ψp,Ψq,hP,h9_29,h9_4,h9_6,h9_7]
            refine hK13 _ _ ?_
            try clear hK13 K13
            refine SX.cond_k fun X15 Y15 hX15 hY15 => ?_
            simp (maxSteps := 1000000) only [ΦY,Φy,Φz,ΦL,ev,Φi,Φv,Φs,Φt,Φx,Φw,Φd,Φn,reduceIte,reduceCtorEq,if_true,if_false,Φo,Φk,Φa,Φb,true_and,and_true,false_and,and_false,true_implies,forall_const,false_implies,ne_eq,not_true_eq_false,not_false_eq_true,decide_true,decide_false,Φu,and_self,true_or,or_true,dite_true,dite_false,Φe,Φc,decide_eq_true_eq,decide_eq_false_iff_not,Φf,Φh,Φg,Φj,beq_self_eq_true,Φp,Φq,Φr,Φl,Φm,eq_self,hP,h9_29,h9_4,h9_6,h9_7,condVC]
            refine ⟨fun hc29 => hX15 ?_, fun hc29 => hY15 ?_⟩
            · clear hX15 hY15 X15 Y15
              refine SX.region ?_
              simp (maxSteps := 1000000) only [ΦY,Φy,Φz,ΦL,ev,Φi,Φv,Φs,Φt,Φx,Φw,Φd,Φn,reduceIte,reduceCtorEq,if_true,if_false,Φo,Φk,Φa,Φb,true_and,and_true,false_and,and_false,true_implies,forall_const,false_implies,ne_eq,not_true_eq_false,not_false_eq_true,decide_true,decide_false,Φu,and_self,true_or,or_true,dite_true,dite_false,Φe,Φc,decide_eq_true_eq,decide_eq_false_iff_not,Φf,Φh,Φg,Φj,beq_self_eq_true,Φp,Φq,Φr,Φl,Φm,eq_self,Ψx,Ψm,Ψn,VCops,VQops,Ψv,putVC,VC,VQ,ΦU,ΦV,ΦN,ΦO,ΦE,ΦF,ΦI,List.getElem?_cons_zero,List.getElem?_cons_succ,List.getElem?_nil,List.getElem?_toArray,Ψd,Ψi,ΦP,ΦA,ΦB,ΦT,ΦM,ΦW,ΦJ,ΦQ,ΦR,ΦX,ΦG,ΦH,ΦZ,ΦC,ΦD,Ψa,ΦK,Ψj,ΦS,Ψb,Ψe,Ψf,Ψg,Ψh,Ψo,exists_eq_left,exists_eq_left',exists_const,Ψs,Ψp,Ψq,fa_ptr,Ψu,Ψl,Ψw,Ψc,Ψr,Ψt,Ψk,T.elA_24,T.lay_24,T.szA_24,T.zr_24,Tryd.underlying24,st_ptr,storeVC,setN,cells_int,cells_bool,ΨB,Ψz,ΨD,cells_agg,oneB_nil,oneB_cons,one_int,one_bool,one_string,ΨE,one_slice,one_map,one_func,ΨF,ΨC,one_iface,cells_map,cells_func,ΨA,Ψy,ΨG,T.szA_4,T.zr_4,Tryd.underlying4,hP,h9_29,h9_4,h9_6,h9_7]
              refine ⟨0, _, _, _, rfl, by first | decide | simp, .inr (by first | decide | simp), ?_⟩
              try simp (maxSteps := 1000000) only [ΦY,Φy,Φz,ΦL,ev,Φi,Φv,Φs,Φt,Φx,Φw,Φd,Φn,reduceIte,reduceCtorEq,if_true,if_false,Φo,Φk,Φa,Φb,true_and,and_true,false_and,and_false,true_implies,forall_const,false_implies,ne_eq,not_true_eq_false,not_false_eq_true,decide_true,decide_false,Φu,and_self,true_or,or_true,dite_true,dite_false,Φe,Φc,decide_eq_true_eq,decide_eq_false_iff_not,Φf,Φh,Φg,Φj,beq_self_eq_true,Φp,Φq,Φr,Φl,Φm,eq_self,Ψx,Ψm,Ψn,VCops,VQops,Ψv,putVC,VC,VQ,ΦU,ΦV,ΦN,ΦO,ΦE,ΦF,ΦI,List.getElem?_cons_zero,List.getElem?_cons_succ,List.getElem?_nil,List.getElem?_toArray,Ψd,Ψi,ΦP,ΦA,ΦB,ΦT,ΦM,ΦW,ΦJ,ΦQ,ΦR,ΦX,ΦG,ΦH,ΦZ,ΦC,ΦD,Ψa,ΦK,Ψj,ΦS,Ψb,Ψe,Ψf,Ψg,Ψh,Ψo,exists_eq_left,exists_eq_left',exists_const,Ψs,Ψp,Ψq,fa_ptr,Ψu,Ψl,Ψw,Ψc,Ψr,Ψt,Ψk,T.elA_24,T.lay_24,T.szA_24,T.zr_24,Tryd.underlying24,st_ptr,storeVC,setN,cells_int,cells_bool,ΨB,Ψz,ΨD,cells_agg,oneB_nil,oneB_cons,one_int,one_bool,one_string,ΨE,one_slice,one_map,one_func,ΨF,ΨC,one_iface,cells_map,cells_func,ΨA,Ψy,ΨG,T.szA_4,T.zr_4,Tryd.underlying4,hP,h9_29,h9_4,h9_6,h9_7]
              refine hK12 false _ (some (bn, .cells #[.int .i64 l, .int .i64 c, .bool false, .int .i64 g1] 24 (0, 0)) :: some (br, .cells #[.int .i64 0, .int .i64 0, .bool false, .int .i64 0] 24 (0, 0)) :: some (bd, .cells #[.int .u8 code, .int .u16 ad, .bool rd, .bool wr, .bool own, .int .u8 data, .int .u8 port, .bool pulse] 49 (0, 0)) :: some (bx, .cells #[.int .i64 l, .int .i64 c, .bool o, .int .i64 g] 24 (0, 0)) :: L) _ (by first | exact Less.refl _ | exact Less.drop _ _ | exact Less.drops (Less.drop _ _) | exact Less.drops (Less.drops (Less.drop _ _)) | exact Less.drops (Less.drops (Less.drops (Less.drop _ _))) | exact Less.drops (Less.drops (Less.drops (Less.drops (Less.drop _ _))))) ?_
              try dsimp only
              refine ⟨?_, ?_, ?_, ?_⟩
              · simp (maxSteps := 1000000) only [ΦY,Φy,Φz,ΦL,ev,Φi,Φv,Φs,Φt,Φx,Φw,Φd,Φn,reduceIte,reduceCtorEq,if_true,if_false,Φo,Φk,Φa,Φb,true_and,and_true,false_and,and_false,true_implies,forall_const,false_implies,ne_eq,not_true_eq_false,not_false_eq_true,decide_true,decide_false,Φu,and_self,true_or,or_true,dite_true,dite_false,Φe,Φc,decide_eq_true_eq,decide_eq_false_iff_not,Φf,Φh,Φg,Φj,beq_self_eq_true,Φp,Φq,Φr,Φl,Φm,eq_self,hP,h9_29,h9_4,h9_6,h9_7]
              · simp (maxSteps := 1000000) only [ΦY,Φy,Φz,ΦL,ev,Φi,Φv,Φs,Φt,Φx,Φw,Φd,Φn,reduceIte,reduceCtorEq,if_true,if_false,Φo,Φk,Φa,Φb,true_and,and_true,false_and,and_false,true_implies,forall_const,false_implies,ne_eq,not_true_eq_false,not_false_eq_true,decide_true,decide_false,Φu,and_self,true_or,or_true,dite_true,dite_false,Φe,Φc,decide_eq_true_eq,decide_eq_false_iff_not,Φf,Φh,Φg,Φj,beq_self_eq_true,Φp,Φq,Φr,Φl,Φm,eq_self,hP,h9_29,h9_4,h9_6,h9_7]
              · rfl
              · rw [onB, if_pos hc29]
            · clear hX15 hY15 X15 Y15
              refine SX.seq_k fun K16 hK16 => ?_
              refine SX.region_x ?_
              refine RX.live [4, 6, 7] (fun T10 hT10 => ?_)
              simp only [ΨH,forall_mem_nil',ΦY,Φy,Φz,ΦL,ev,Φi,Φv,Φs,Φt,Φx,Φw,Φd,Φn,reduceIte,reduceCtorEq,if_true,if_false,Φo,Φk,Φa,Φb,true_and,and_true,false_and,and_false,true_implies,forall_const,false_implies,ne_eq,not_true_eq_false,not_false_eq_true,decide_true,decide_false,Φu,and_self,true_or,or_true,dite_true,dite_false,Φe,Φc,decide_eq_true_eq,decide_eq_false_iff_not,Φf,Φh,Φg,Φj,beq_self_eq_true,Φp,Φq,Φr,Φl,Φm,eq_self,hP,h9_29,h9_4,h9_6,h9_7] at hT10
              obtain ⟨h10_4, h10_6, h10_7⟩ := hT10
              clear h9_29 h9_4 h9_6 h9_7 T9
              refine RX.join 7 (fun (ss : Unit) T L' => T 37 = .bool (decide (port = 1) && wr) ∧ T 4 = T10 4 ∧ T 6 = T10 6 ∧ T 7 = T10 7 ∧ L' = some (bn, .cells #[.int .i64 l, .int .i64 c, .bool o, .int .i64 g1] 24 (0, 0)) :: some (br, .cells #[.int .i64 0, .int .i64 0, .bool false, .int .i64 0] 24 (0, 0)) :: some (bd, .cells #[.int .u8 code, .int .u16 ad, .bool rd, .bool wr, .bool own, .int .u8 data, .int .u8 port, .bool pulse] 49 (0, 0)) :: some (bx, .cells #[.int .i64 l, .int .i64 c, .bool o, .int .i64 g] 24 (0, 0)) :: L ∧ (True)) (fun K17 hK17 => ?_) ?_
              · simp only [h10_4, h10_6, h10_7] at hK17
                simp (maxSteps := 1000000) only [ΦY,Φy,Φz,ΦL,ev,Φi,Φv,Φs,Φt,Φx,Φw,Φd,Φn,reduceIte,reduceCtorEq,if_true,if_false,Φo,Φk,Φa,Φb,true_and,and_true,false_and,and_false,true_implies,forall_const,false_implies,ne_eq,not_true_eq_false,not_false_eq_true,decide_true,decide_false,Φu,and_self,true_or,or_true,dite_true,dite_false,Φe,Φc,decide_eq_true_eq,decide_eq_false_iff_not,Φf,Φh,Φg,Φj,beq_self_eq_true,Φp,Φq,Φr,Φl,Φm,eq_self,Ψx,Ψm,Ψn,VCops,VQops,Ψv,putVC,VC,VQ,ΦU,ΦV,ΦN,ΦO,ΦE,ΦF,ΦI,List.getElem?_cons_zero,List.getElem?_cons_succ,List.getElem?_nil,List.getElem?_toArray,Ψd,Ψi,ΦP,ΦA,ΦB,ΦT,ΦM,ΦW,ΦJ,ΦQ,ΦR,ΦX,ΦG,ΦH,ΦZ,ΦC,ΦD,Ψa,ΦK,Ψj,ΦS,Ψb,Ψe,Ψf,Ψg,Ψh,Ψo,exists_eq_left,exists_eq_left',exists_const,Ψs,Ψp,Ψq,fa_ptr,Ψu,Ψl,Ψw,Ψc,Ψr,Ψt,Ψk,T.elA_49,T.lay_49,T.szA_49,T.zr_49,Tryd.underlying49,ld_ptr,loadVC,loadN,T.szA_5,T.zr_5,Tryd.underlying5,bin_eql,bin_eqlb,bin_eqls,bin_eqla,T.szA_4,T.zr_4,Tryd.underlying4,pick_bool,hP,h10_4,h10_6,h10_7]
                repeat' (first | refine iteB (fun hg => ?_) (fun hg => ?_) | refine iteI (fun hg => ?_) (fun hg => ?_) | ((first | refine And.intro (by omega) ?_ | refine ⟨_, Cell.at 0 rfl rfl, ?_⟩ | refine ⟨_, Cell.at 1 rfl rfl, ?_⟩ | refine ⟨_, Cell.at 2 rfl rfl, ?_⟩ | refine ⟨_, Cell.at 3 rfl rfl, ?_⟩ | fail); try simp (maxSteps := 1000000) only [ΦY,Φy,Φz,ΦL,ev,Φi,Φv,Φs,Φt,Φx,Φw,Φd,Φn,reduceIte,reduceCtorEq,if_true,if_false,Φo,Φk,Φa,Φb,true_and,and_true,false_and,and_false,true_implies,forall_const,false_implies,ne_eq,not_true_eq_false,not_false_eq_true,decide_true,decide_false,Φu,and_self,true_or,or_true,dite_true,dite_false,Φe,Φc,decide_eq_true_eq,decide_eq_false_iff_not,Φf,Φh,Φg,Φj,beq_self_eq_true,Φp,Φq,Φr,Φl,Φm,eq_self,Ψx,Ψm,Ψn,VCops,VQops,Ψv,putVC,VC,VQ,ΦU,ΦV,ΦN,ΦO,ΦE,ΦF,ΦI,List.getElem?_cons_zero,List.getElem?_cons_succ,List.getElem?_nil,List.getElem?_toArray,Ψd,Ψi,ΦP,ΦA,ΦB,ΦT,ΦM,ΦW,ΦJ,ΦQ,ΦR,ΦX,ΦG,ΦH,ΦZ,ΦC,ΦD,Ψa,ΦK,Ψj,ΦS,Ψb,Ψe,Ψf,Ψg,Ψh,Ψo,exists_eq_left,exists_eq_left',exists_const,Ψs,Ψp,Ψq,fa_ptr,Ψu,Ψl,Ψw,Ψc,Ψr,Ψt,Ψk,T.elA_49,T.lay_49,T.szA_49,T.zr_49,Tryd.underlying49,ld_ptr,loadVC,loadN,T.szA_5,T.zr_5,Tryd.underlying5,bin_eql,bin_eqlb,bin_eqls,bin_eqla,T.szA_4,T.zr_4,Tryd.underlying4,pick_bool,hP,h10_4,h10_6,h10_7]) | fail)
                all_goals
                  refine hK17 () _ (some (bn, .cells #[.int .i64 l, .int .i64 c, .bool o, .int .i64 g1] 24 (0, 0)) :: some (br, .cells #[.int .i64 0, .int .i64 0, .bool false, .int .i64 0] 24 (0, 0)) :: some (bd, .cells #[.int .u8 code, .int .u16 ad, .bool rd, .bool wr, .bool own, .int .u8 data, .int .u8 port, .bool pulse] 49 (0, 0)) :: some (bx, .cells #[.int .i64 l, .int .i64 c, .bool o, .int .i64 g] 24 (0, 0)) :: L) _ (by first | exact Less.refl _ | exact Less.drop _ _ | exact Less.drops (Less.drop _ _) | exact Less.drops (Less.drops (Less.drop _ _)) | exact Less.drops (Less.drops (Less.drops (Less.drop _ _))) | exact Less.drops (Less.drops (Less.drops (Less.drops (Less.drop _ _))))) ?_
                  try dsimp only
                  refine ⟨?_, ?_, ?_, ?_, ?_, ?_⟩
                  · simp (maxSteps := 1000000) only [ΦY,Φy,Φz,ΦL,ev,Φi,Φv,Φs,Φt,Φx,Φw,Φd,Φn,reduceIte,reduceCtorEq,if_true,if_false,Φo,Φk,Φa,Φb,true_and,and_true,false_and,and_false,true_implies,forall_const,false_implies,ne_eq,not_true_eq_false,not_false_eq_true,decide_true,decide_false,Φu,and_self,true_or,or_true,dite_true,dite_false,Φe,Φc,decide_eq_true_eq,decide_eq_false_iff_not,Φf,Φh,Φg,Φj,beq_self_eq_true,Φp,Φq,Φr,Φl,Φm,eq_self,hP,h10_4,h10_6,h10_7]
                    first | done | simp [*]
                  · simp (maxSteps := 1000000) only [ΦY,Φy,Φz,ΦL,ev,Φi,Φv,Φs,Φt,Φx,Φw,Φd,Φn,reduceIte,reduceCtorEq,if_true,if_false,Φo,Φk,Φa,Φb,true_and,and_true,false_and,and_false,true_implies,forall_const,false_implies,ne_eq,not_true_eq_false,not_false_eq_true,decide_true,decide_false,Φu,and_self,true_or,or_true,dite_true,dite_false,Φe,Φc,decide_eq_true_eq,decide_eq_false_iff_not,Φf,Φh,Φg,Φj,beq_self_eq_true,Φp,Φq,Φr,Φl,Φm,eq_self,hP,h10_4,h10_6,h10_7]
                  · simp (maxSteps := 1000000) only [ΦY,Φy,Φz,ΦL,ev,Φi,Φv,Φs,Φt,Φx,Φw,Φd,Φn,reduceIte,reduceCtorEq,if_true,if_false,Φo,Φk,Φa,Φb,true_and,and_true,false_and,and_false,true_implies,forall_const,false_implies,ne_eq,not_true_eq_false,not_false_eq_true,decide_true,decide_false,Φu,and_self,true_or,or_true,dite_true,dite_false,Φe,Φc,decide_eq_true_eq,decide_eq_false_iff_not,Φf,Φh,Φg,Φj,beq_self_eq_true,Φp,Φq,Φr,Φl,Φm,eq_self,hP,h10_4,h10_6,h10_7]
                  · simp (maxSteps := 1000000) only [ΦY,Φy,Φz,ΦL,ev,Φi,Φv,Φs,Φt,Φx,Φw,Φd,Φn,reduceIte,reduceCtorEq,if_true,if_false,Φo,Φk,Φa,Φb,true_and,and_true,false_and,and_false,true_implies,forall_const,false_implies,ne_eq,not_true_eq_false,not_false_eq_true,decide_true,decide_false,Φu,and_self,true_or,or_true,dite_true,dite_false,Φe,Φc,decide_eq_true_eq,decide_eq_false_iff_not,Φf,Φh,Φg,Φj,beq_self_eq_true,Φp,Φq,Φr,Φl,Φm,eq_self,hP,h10_4,h10_6,h10_7]
                  · rfl
                  · trivial
              · intro ss T11 L11 hI
                simp only [h10_4, h10_6, h10_7] at hI 
                obtain ⟨h11_37, h11_4, h11_6, h11_7, hL11, hinv⟩ := hI
                replace hL11 := hL11.symm
                subst hL11
                clear h10_4 h10_6 h10_7 T10
                refine RX.done ?_
                simp (maxSteps := 1000000) only [ΦY,Φy,Φz,ΦL,ev,Φi,Φv,Φs,Φt,Φx,Φw,Φd,Φn,reduceIte,reduceCtorEq,if_true,if_false,Φo,Φk,Φa,Φb,true_and,and_true,false_and,and_false,true_implies,forall_const,false_implies,ne_eq,not_true_eq_false,not_false_eq_true,decide_true,decide_false,Φu,and_self,true_or,or_true,dite_true,dite_false,Φe,Φc,decide_eq_true_eq,decide_eq_false_iff_not,Φf,Φh,Φg,Φj,beq_self_eq_true,Φp,Φq,Φr,Φl,Φm,eq_self,Ψx,Ψm,Ψn,VCops,VQops,Ψv,putVC,VC,VQ,ΦU,ΦV,ΦN,ΦO,ΦE,ΦF,ΦI,List.getElem?_cons_zero,List.getElem?_cons_succ,List.getElem?_nil,List.getElem?_toArray,Ψd,Ψi,ΦP,ΦA,ΦB,ΦT,ΦM,ΦW,ΦJ,ΦQ,ΦR,ΦX,ΦG,ΦH,ΦZ,ΦC,ΦD,Ψa,ΦK,Ψj,ΦS,Ψb,Ψe,Ψf,Ψg,Ψh,Ψo,exists_eq_left,exists_eq_left',exists_const,Ψs,Ψp,Ψq,hP,h11_37,h11_4,h11_6,h11_7]
                refine hK16 _ _ ?_
                try clear hK16 K16
                refine SX.cond_k fun X18 Y18 hX18 hY18 => ?_
                simp (maxSteps := 1000000) only [ΦY,Φy,Φz,ΦL,ev,Φi,Φv,Φs,Φt,Φx,Φw,Φd,Φn,reduceIte,reduceCtorEq,if_true,if_false,Φo,Φk,Φa,Φb,true_and,and_true,false_and,and_false,true_implies,forall_const,false_implies,ne_eq,not_true_eq_false,not_false_eq_true,decide_true,decide_false,Φu,and_self,true_or,or_true,dite_true,dite_false,Φe,Φc,decide_eq_true_eq,decide_eq_false_iff_not,Φf,Φh,Φg,Φj,beq_self_eq_true,Φp,Φq,Φr,Φl,Φm,eq_self,hP,h11_37,h11_4,h11_6,h11_7,condVC]
                refine ⟨fun hc37 => hX18 ?_, fun hc37 => hY18 ?_⟩
                · clear hX18 hY18 X18 Y18
                  refine SX.region ?_
                  simp (maxSteps := 1000000) only [ΦY,Φy,Φz,ΦL,ev,Φi,Φv,Φs,Φt,Φx,Φw,Φd,Φn,reduceIte,reduceCtorEq,if_true,if_false,Φo,Φk,Φa,Φb,true_and,and_true,false_and,and_false,true_implies,forall_const,false_implies,ne_eq,not_true_eq_false,not_false_eq_true,decide_true,decide_false,Φu,and_self,true_or,or_true,dite_true,dite_false,Φe,Φc,decide_eq_true_eq,decide_eq_false_iff_not,Φf,Φh,Φg,Φj,beq_self_eq_true,Φp,Φq,Φr,Φl,Φm,eq_self,Ψx,Ψm,Ψn,VCops,VQops,Ψv,putVC,VC,VQ,ΦU,ΦV,ΦN,ΦO,ΦE,ΦF,ΦI,List.getElem?_cons_zero,List.getElem?_cons_succ,List.getElem?_nil,List.getElem?_toArray,Ψd,Ψi,ΦP,ΦA,ΦB,ΦT,ΦM,ΦW,ΦJ,ΦQ,ΦR,ΦX,ΦG,ΦH,ΦZ,ΦC,ΦD,Ψa,ΦK,Ψj,ΦS,Ψb,Ψe,Ψf,Ψg,Ψh,Ψo,exists_eq_left,exists_eq_left',exists_const,Ψs,Ψp,Ψq,fa_ptr,Ψu,Ψl,Ψw,Ψc,Ψr,Ψt,Ψk,T.elA_24,T.lay_24,T.szA_24,T.zr_24,Tryd.underlying24,st_ptr,storeVC,setN,cells_int,cells_bool,ΨB,Ψz,ΨD,cells_agg,oneB_nil,oneB_cons,one_int,one_bool,one_string,ΨE,one_slice,one_map,one_func,ΨF,ΨC,one_iface,cells_map,cells_func,ΨA,Ψy,ΨG,T.szA_4,T.zr_4,Tryd.underlying4,hP,h11_37,h11_4,h11_6,h11_7]
                  refine ⟨0, _, _, _, rfl, by first | decide | simp, .inr (by first | decide | simp), ?_⟩
                  try simp (maxSteps := 1000000) only [ΦY,Φy,Φz,ΦL,ev,Φi,Φv,Φs,Φt,Φx,Φw,Φd,Φn,reduceIte,reduceCtorEq,if_true,if_false,Φo,Φk,Φa,Φb,true_and,and_true,false_and,and_false,true_implies,forall_const,false_implies,ne_eq,not_true_eq_false,not_false_eq_true,decide_true,decide_false,Φu,and_self,true_or,or_true,dite_true,dite_false,Φe,Φc,decide_eq_true_eq,decide_eq_false_iff_not,Φf,Φh,Φg,Φj,beq_self_eq_true,Φp,Φq,Φr,Φl,Φm,eq_self,Ψx,Ψm,Ψn,VCops,VQops,Ψv,putVC,VC,VQ,ΦU,ΦV,ΦN,ΦO,ΦE,ΦF,ΦI,List.getElem?_cons_zero,List.getElem?_cons_succ,List.getElem?_nil,List.getElem?_toArray,Ψd,Ψi,ΦP,ΦA,ΦB,ΦT,ΦM,ΦW,ΦJ,ΦQ,ΦR,ΦX,ΦG,ΦH,ΦZ,ΦC,ΦD,Ψa,ΦK,Ψj,ΦS,Ψb,Ψe,Ψf,Ψg,Ψh,Ψo,exists_eq_left,exists_eq_left',exists_const,Ψs,Ψp,Ψq,fa_ptr,Ψu,Ψl,Ψw,Ψc,Ψr,Ψt,Ψk,T.elA_24,T.lay_24,T.szA_24,T.zr_24,Tryd.underlying24,st_ptr,storeVC,setN,cells_int,cells_bool,ΨB,Ψz,ΨD,cells_agg,oneB_nil,oneB_cons,one_int,one_bool,one_string,ΨE,one_slice,one_map,one_func,ΨF,ΨC,one_iface,cells_map,cells_func,ΨA,Ψy,ΨG,T.szA_4,T.zr_4,Tryd.underlying4,hP,h11_37,h11_4,h11_6,h11_7]
                  refine hK12 true _ (some (bn, .cells #[.int .i64 l, .int .i64 c, .bool true, .int .i64 g1] 24 (0, 0)) :: some (br, .cells #[.int .i64 0, .int .i64 0, .bool false, .int .i64 0] 24 (0, 0)) :: some (bd, .cells #[.int .u8 code, .int .u16 ad, .bool rd, .bool wr, .bool own, .int .u8 data, .int .u8 port, .bool pulse] 49 (0, 0)) :: some (bx, .cells #[.int .i64 l, .int .i64 c, .bool o, .int .i64 g] 24 (0, 0)) :: L) _ (by first | exact Less.refl _ | exact Less.drop _ _ | exact Less.drops (Less.drop _ _) | exact Less.drops (Less.drops (Less.drop _ _)) | exact Less.drops (Less.drops (Less.drops (Less.drop _ _))) | exact Less.drops (Less.drops (Less.drops (Less.drops (Less.drop _ _))))) ?_
                  try dsimp only
                  refine ⟨?_, ?_, ?_, ?_⟩
                  · simp (maxSteps := 1000000) only [ΦY,Φy,Φz,ΦL,ev,Φi,Φv,Φs,Φt,Φx,Φw,Φd,Φn,reduceIte,reduceCtorEq,if_true,if_false,Φo,Φk,Φa,Φb,true_and,and_true,false_and,and_false,true_implies,forall_const,false_implies,ne_eq,not_true_eq_false,not_false_eq_true,decide_true,decide_false,Φu,and_self,true_or,or_true,dite_true,dite_false,Φe,Φc,decide_eq_true_eq,decide_eq_false_iff_not,Φf,Φh,Φg,Φj,beq_self_eq_true,Φp,Φq,Φr,Φl,Φm,eq_self,hP,h11_37,h11_4,h11_6,h11_7]
                  · simp (maxSteps := 1000000) only [ΦY,Φy,Φz,ΦL,ev,Φi,Φv,Φs,Φt,Φx,Φw,Φd,Φn,reduceIte,reduceCtorEq,if_true,if_false,Φo,Φk,Φa,Φb,true_and,and_true,false_and,and_false,true_implies,forall_const,false_implies,ne_eq,not_true_eq_false,not_false_eq_true,decide_true,decide_false,Φu,and_self,true_or,or_true,dite_true,dite_false,Φe,Φc,decide_eq_true_eq,decide_eq_false_iff_not,Φf,Φh,Φg,Φj,beq_self_eq_true,Φp,Φq,Φr,Φl,Φm,eq_self,hP,h11_37,h11_4,h11_6,h11_7]
                  · rfl
                  · rw [onB, if_neg hc29]; simp at hc37; simp [hc37]
                · clear hX18 hY18 X18 Y18
                  refine SX.seq_k fun K19 hK19 => ?_
                  refine SX.region_x ?_
                  refine RX.live [4, 6, 7] (fun T12 hT12 => ?_)
                  simp only [ΨH,forall_mem_nil',ΦY,Φy,Φz,ΦL,ev,Φi,Φv,Φs,Φt,Φx,Φw,Φd,Φn,reduceIte,reduceCtorEq,if_true,if_false,Φo,Φk,Φa,Φb,true_and,and_true,false_and,and_false,true_implies,forall_const,false_implies,ne_eq,not_true_eq_false,not_false_eq_true,decide_true,decide_false,Φu,and_self,true_or,or_true,dite_true,dite_false,Φe,Φc,decide_eq_true_eq,decide_eq_false_iff_not,Φf,Φh,Φg,Φj,beq_self_eq_true,Φp,Φq,Φr,Φl,Φm,eq_self,hP,h11_37,h11_4,h11_6,h11_7] at hT12
                  obtain ⟨h12_4, h12_6, h12_7⟩ := hT12
                  clear h11_37 h11_4 h11_6 h11_7 T11
                  refine RX.join 7 (fun (ss : Unit) T L' => T 45 = .bool (decide (port = 1) && rd) ∧ T 6 = T12 6 ∧ T 7 = T12 7 ∧ L' = some (bn, .cells #[.int .i64 l, .int .i64 c, .bool o, .int .i64 g1] 24 (0, 0)) :: some (br, .cells #[.int .i64 0, .int .i64 0, .bool false, .int .i64 0] 24 (0, 0)) :: some (bd, .cells #[.int .u8 code, .int .u16 ad, .bool rd, .bool wr, .bool own, .int .u8 data, .int .u8 port, .bool pulse] 49 (0, 0)) :: some (bx, .cells #[.int .i64 l, .int .i64 c, .bool o, .int .i64 g] 24 (0, 0)) :: L ∧ (True)) (fun K20 hK20 => ?_) ?_
                  · simp only [h12_6, h12_7] at hK20
                    simp (maxSteps := 1000000) only [ΦY,Φy,Φz,ΦL,ev,Φi,Φv,Φs,Φt,Φx,Φw,Φd,Φn,reduceIte,reduceCtorEq,if_true,if_false,Φo,Φk,Φa,Φb,true_and,and_true,false_and,and_false,true_implies,forall_const,false_implies,ne_eq,not_true_eq_false,not_false_eq_true,decide_true,decide_false,Φu,and_self,true_or,or_true,dite_true,dite_false,Φe,Φc,decide_eq_true_eq,decide_eq_false_iff_not,Φf,Φh,Φg,Φj,beq_self_eq_true,Φp,Φq,Φr,Φl,Φm,eq_self,Ψx,Ψm,Ψn,VCops,VQops,Ψv,putVC,VC,VQ,ΦU,ΦV,ΦN,ΦO,ΦE,ΦF,ΦI,List.getElem?_cons_zero,List.getElem?_cons_succ,List.getElem?_nil,List.getElem?_toArray,Ψd,Ψi,ΦP,ΦA,ΦB,ΦT,ΦM,ΦW,ΦJ,ΦQ,ΦR,ΦX,ΦG,ΦH,ΦZ,ΦC,ΦD,Ψa,ΦK,Ψj,ΦS,Ψb,Ψe,Ψf,Ψg,Ψh,Ψo,exists_eq_left,exists_eq_left',exists_const,Ψs,Ψp,Ψq,fa_ptr,Ψu,Ψl,Ψw,Ψc,Ψr,Ψt,Ψk,T.elA_49,T.lay_49,T.szA_49,T.zr_49,Tryd.underlying49,ld_ptr,loadVC,loadN,T.szA_5,T.zr_5,Tryd.underlying5,bin_eql,bin_eqlb,bin_eqls,bin_eqla,T.szA_4,T.zr_4,Tryd.underlying4,pick_bool,hP,h12_4,h12_6,h12_7]
                    repeat' (first | refine iteB (fun hg => ?_) (fun hg => ?_) | refine iteI (fun hg => ?_) (fun hg => ?_) | ((first | refine And.intro (by omega) ?_ | refine ⟨_, Cell.at 0 rfl rfl, ?_⟩ | refine ⟨_, Cell.at 1 rfl rfl, ?_⟩ | refine ⟨_, Cell.at 2 rfl rfl, ?_⟩ | refine ⟨_, Cell.at 3 rfl rfl, ?_⟩ | fail); try simp (maxSteps := 1000000) only [ΦY,Φy,Φz,ΦL,ev,Φi,Φv,Φs,Φt,Φx,Φw,Φd,Φn,reduceIte,reduceCtorEq,if_true,if_false,Φo,Φk,Φa,Φb,true_and,and_true,false_and,and_false,true_implies,forall_const,false_implies,ne_eq,not_true_eq_false,not_false_eq_true,decide_true,decide_false,Φu,and_self,true_or,or_true,dite_true,dite_false,Φe,Φc,decide_eq_true_eq,decide_eq_false_iff_not,Φf,Φh,Φg,Φj,beq_self_eq_true,Φp,Φq,Φr,Φl,Φm,eq_self,Ψx,Ψm,Ψn,VCops,VQops,Ψv,putVC,VC,VQ,ΦU,ΦV,ΦN,ΦO,ΦE,ΦF,ΦI,List.getElem?_cons_zero,List.getElem?_cons_succ,List.getElem?_nil,List.getElem?_toArray,Ψd,Ψi,ΦP,ΦA,ΦB,ΦT,ΦM,ΦW,ΦJ,ΦQ,ΦR,ΦX,ΦG,ΦH,ΦZ,ΦC,ΦD,Ψa,ΦK,Ψj,ΦS,Ψb,Ψe,Ψf,Ψg,Ψh,Ψo,exists_eq_left,exists_eq_left',exists_const,Ψs,Ψp,Ψq,fa_ptr,Ψu,Ψl,Ψw,Ψc,Ψr,Ψt,Ψk,T.elA_49,T.lay_49,T.szA_49,T.zr_49,Tryd.underlying49,ld_ptr,loadVC,loadN,T.szA_5,T.zr_5,Tryd.underlying5,bin_eql,bin_eqlb,bin_eqls,bin_eqla,T.szA_4,T.zr_4,Tryd.underlying4,pick_bool,hP,h12_4,h12_6,h12_7]) | fail)
                    all_goals
                      refine hK20 () _ (some (bn, .cells #[.int .i64 l, .int .i64 c, .bool o, .int .i64 g1] 24 (0, 0)) :: some (br, .cells #[.int .i64 0, .int .i64 0, .bool false, .int .i64 0] 24 (0, 0)) :: some (bd, .cells #[.int .u8 code, .int .u16 ad, .bool rd, .bool wr, .bool own, .int .u8 data, .int .u8 port, .bool pulse] 49 (0, 0)) :: some (bx, .cells #[.int .i64 l, .int .i64 c, .bool o, .int .i64 g] 24 (0, 0)) :: L) _ (by first | exact Less.refl _ | exact Less.drop _ _ | exact Less.drops (Less.drop _ _) | exact Less.drops (Less.drops (Less.drop _ _)) | exact Less.drops (Less.drops (Less.drops (Less.drop _ _))) | exact Less.drops (Less.drops (Less.drops (Less.drops (Less.drop _ _))))) ?_
                      try dsimp only
                      refine ⟨?_, ?_, ?_, ?_, ?_⟩
                      · simp (maxSteps := 1000000) only [ΦY,Φy,Φz,ΦL,ev,Φi,Φv,Φs,Φt,Φx,Φw,Φd,Φn,reduceIte,reduceCtorEq,if_true,if_false,Φo,Φk,Φa,Φb,true_and,and_true,false_and,and_false,true_implies,forall_const,false_implies,ne_eq,not_true_eq_false,not_false_eq_true,decide_true,decide_false,Φu,and_self,true_or,or_true,dite_true,dite_false,Φe,Φc,decide_eq_true_eq,decide_eq_false_iff_not,Φf,Φh,Φg,Φj,beq_self_eq_true,Φp,Φq,Φr,Φl,Φm,eq_self,hP,h12_4,h12_6,h12_7]
                        first | done | simp [*]
                      · simp (maxSteps := 1000000) only [ΦY,Φy,Φz,ΦL,ev,Φi,Φv,Φs,Φt,Φx,Φw,Φd,Φn,reduceIte,reduceCtorEq,if_true,if_false,Φo,Φk,Φa,Φb,true_and,and_true,false_and,and_false,true_implies,forall_const,false_implies,ne_eq,not_true_eq_false,not_false_eq_true,decide_true,decide_false,Φu,and_self,true_or,or_true,dite_true,dite_false,Φe,Φc,decide_eq_true_eq,decide_eq_false_iff_not,Φf,Φh,Φg,Φj,beq_self_eq_true,Φp,Φq,Φr,Φl,Φm,eq_self,hP,h12_4,h12_6,h12_7]
                      · simp (maxSteps := 1000000) only [ΦY,Φy,Φz,ΦL,ev,Φi,Φv,Φs,Φt,Φx,Φw,Φd,Φn,reduceIte,reduceCtorEq,if_true,if_false,Φo,Φk,Φa,Φb,true_and,and_true,false_and,and_false,true_implies,forall_const,false_implies,ne_eq,not_true_eq_false,not_false_eq_true,decide_true,decide_false,Φu,and_self,true_or,or_true,dite_true,dite_false,Φe,Φc,decide_eq_true_eq,decide_eq_false_iff_not,Φf,Φh,Φg,Φj,beq_self_eq_true,Φp,Φq,Φr,Φl,Φm,eq_self,hP,h12_4,h12_6,h12_7]
                      · rfl
                      · trivial
                  · intro ss T13 L13 hI
                    simp only [h12_6, h12_7] at hI 
                    obtain ⟨h13_45, h13_6, h13_7, hL13, hinv⟩ := hI
                    replace hL13 := hL13.symm
                    subst hL13
                    clear h12_4 h12_6 h12_7 T12
                    refine RX.done ?_
                    simp (maxSteps := 1000000) only [ΦY,Φy,Φz,ΦL,ev,Φi,Φv,Φs,Φt,Φx,Φw,Φd,Φn,reduceIte,reduceCtorEq,if_true,if_false,Φo,Φk,Φa,Φb,true_and,and_true,false_and,and_false,true_implies,forall_const,false_implies,ne_eq,not_true_eq_false,not_false_eq_true,decide_true,decide_false,Φu,and_self,true_or,or_true,dite_true,dite_false,Φe,Φc,decide_eq_true_eq,decide_eq_false_iff_not,Φf,Φh,Φg,Φj,beq_self_eq_true,Φp,Φq,Φr,Φl,Φm,eq_self,Ψx,Ψm,Ψn,VCops,VQops,Ψv,putVC,VC,VQ,ΦU,ΦV,ΦN,ΦO,ΦE,ΦF,ΦI,List.getElem?_cons_zero,List.getElem?_cons_succ,List.getElem?_nil,List.getElem?_toArray,Ψd,Ψi,ΦP,ΦA,ΦB,ΦT,ΦM,ΦW,ΦJ,ΦQ,ΦR,ΦX,ΦG,ΦH,ΦZ,ΦC,ΦD,Ψa,ΦK,Ψj,ΦS,Ψb,Ψe,Ψf,Ψg,Ψh,Ψo,exists_eq_left,exists_eq_left',exists_const,Ψs,Ψp,Ψq,hP,h13_45,h13_6,h13_7]
                    refine hK19 _ _ ?_
                    try clear hK19 K19
                    refine SX.cond_k fun X21 Y21 hX21 hY21 => ?_
                    simp (maxSteps := 1000000) only [ΦY,Φy,Φz,ΦL,ev,Φi,Φv,Φs,Φt,Φx,Φw,Φd,Φn,reduceIte,reduceCtorEq,if_true,if_false,Φo,Φk,Φa,Φb,true_and,and_true,false_and,and_false,true_implies,forall_const,false_implies,ne_eq,not_true_eq_false,not_false_eq_true,decide_true,decide_false,Φu,and_self,true_or,or_true,dite_true,dite_false,Φe,Φc,decide_eq_true_eq,decide_eq_false_iff_not,Φf,Φh,Φg,Φj,beq_self_eq_true,Φp,Φq,Φr,Φl,Φm,eq_self,hP,h13_45,h13_6,h13_7,condVC]
                    refine ⟨fun hc45 => hX21 ?_, fun hc45 => hY21 ?_⟩
                    · clear hX21 hY21 X21 Y21
                      refine SX.region ?_
                      simp (maxSteps := 1000000) only [ΦY,Φy,Φz,ΦL,ev,Φi,Φv,Φs,Φt,Φx,Φw,Φd,Φn,reduceIte,reduceCtorEq,if_true,if_false,Φo,Φk,Φa,Φb,true_and,and_true,false_and,and_false,true_implies,forall_const,false_implies,ne_eq,not_true_eq_false,not_false_eq_true,decide_true,decide_false,Φu,and_self,true_or,or_true,dite_true,dite_false,Φe,Φc,decide_eq_true_eq,decide_eq_false_iff_not,Φf,Φh,Φg,Φj,beq_self_eq_true,Φp,Φq,Φr,Φl,Φm,eq_self,Ψx,Ψm,Ψn,VCops,VQops,Ψv,putVC,VC,VQ,ΦU,ΦV,ΦN,ΦO,ΦE,ΦF,ΦI,List.getElem?_cons_zero,List.getElem?_cons_succ,List.getElem?_nil,List.getElem?_toArray,Ψd,Ψi,ΦP,ΦA,ΦB,ΦT,ΦM,ΦW,ΦJ,ΦQ,ΦR,ΦX,ΦG,ΦH,ΦZ,ΦC,ΦD,Ψa,ΦK,Ψj,ΦS,Ψb,Ψe,Ψf,Ψg,Ψh,Ψo,exists_eq_left,exists_eq_left',exists_const,Ψs,Ψp,Ψq,fa_ptr,Ψu,Ψl,Ψw,Ψc,Ψr,Ψt,Ψk,T.elA_24,T.lay_24,T.szA_24,T.zr_24,Tryd.underlying24,st_ptr,storeVC,setN,cells_int,cells_bool,ΨB,Ψz,ΨD,cells_agg,oneB_nil,oneB_cons,one_int,one_bool,one_string,ΨE,one_slice,one_map,one_func,ΨF,ΨC,one_iface,cells_map,cells_func,ΨA,Ψy,ΨG,T.szA_4,T.zr_4,Tryd.underlying4,hP,h13_45,h13_6,h13_7]
                      refine ⟨0, _, _, _, rfl, by first | decide | simp, .inr (by first | decide | simp), ?_⟩
                      try simp (maxSteps := 1000000) only [ΦY,Φy,Φz,ΦL,ev,Φi,Φv,Φs,Φt,Φx,Φw,Φd,Φn,reduceIte,reduceCtorEq,if_true,if_false,Φo,Φk,Φa,Φb,true_and,and_true,false_and,and_false,true_implies,forall_const,false_implies,ne_eq,not_true_eq_false,not_false_eq_true,decide_true,decide_false,Φu,and_self,true_or,or_true,dite_true,dite_false,Φe,Φc,decide_eq_true_eq,decide_eq_false_iff_not,Φf,Φh,Φg,Φj,beq_self_eq_true,Φp,Φq,Φr,Φl,Φm,eq_self,Ψx,Ψm,Ψn,VCops,VQops,Ψv,putVC,VC,VQ,ΦU,ΦV,ΦN,ΦO,ΦE,ΦF,ΦI,List.getElem?_cons_zero,List.getElem?_cons_succ,List.getElem?_nil,List.getElem?_toArray,Ψd,Ψi,ΦP,ΦA,ΦB,ΦT,ΦM,ΦW,ΦJ,ΦQ,ΦR,ΦX,ΦG,ΦH,ΦZ,ΦC,ΦD,Ψa,ΦK,Ψj,ΦS,Ψb,Ψe,Ψf,Ψg,Ψh,Ψo,exists_eq_left,exists_eq_left',exists_const,Ψs,Ψp,Ψq,fa_ptr,Ψu,Ψl,Ψw,Ψc,Ψr,Ψt,Ψk,T.elA_24,T.lay_24,T.szA_24,T.zr_24,Tryd.underlying24,st_ptr,storeVC,setN,cells_int,cells_bool,ΨB,Ψz,ΨD,cells_agg,oneB_nil,oneB_cons,one_int,one_bool,one_string,ΨE,one_slice,one_map,one_func,ΨF,ΨC,one_iface,cells_map,cells_func,ΨA,Ψy,ΨG,T.szA_4,T.zr_4,Tryd.underlying4,hP,h13_45,h13_6,h13_7]
                      refine hK12 false _ (some (bn, .cells #[.int .i64 l, .int .i64 c, .bool false, .int .i64 g1] 24 (0, 0)) :: some (br, .cells #[.int .i64 0, .int .i64 0, .bool false, .int .i64 0] 24 (0, 0)) :: some (bd, .cells #[.int .u8 code, .int .u16 ad, .bool rd, .bool wr, .bool own, .int .u8 data, .int .u8 port, .bool pulse] 49 (0, 0)) :: some (bx, .cells #[.int .i64 l, .int .i64 c, .bool o, .int .i64 g] 24 (0, 0)) :: L) _ (by first | exact Less.refl _ | exact Less.drop _ _ | exact Less.drops (Less.drop _ _) | exact Less.drops (Less.drops (Less.drop _ _)) | exact Less.drops (Less.drops (Less.drops (Less.drop _ _))) | exact Less.drops (Less.drops (Less.drops (Less.drops (Less.drop _ _))))) ?_
                      try dsimp only
                      refine ⟨?_, ?_, ?_, ?_⟩
                      · simp (maxSteps := 1000000) only [ΦY,Φy,Φz,ΦL,ev,Φi,Φv,Φs,Φt,Φx,Φw,Φd,Φn,reduceIte,reduceCtorEq,if_true,if_false,Φo,Φk,Φa,Φb,true_and,and_true,false_and,and_false,true_implies,forall_const,false_implies,ne_eq,not_true_eq_false,not_false_eq_true,decide_true,decide_false,Φu,and_self,true_or,or_true,dite_true,dite_false,Φe,Φc,decide_eq_true_eq,decide_eq_false_iff_not,Φf,Φh,Φg,Φj,beq_self_eq_true,Φp,Φq,Φr,Φl,Φm,eq_self,hP,h13_45,h13_6,h13_7]
                      · simp (maxSteps := 1000000) only [ΦY,Φy,Φz,ΦL,ev,Φi,Φv,Φs,Φt,Φx,Φw,Φd,Φn,reduceIte,reduceCtorEq,if_true,if_false,Φo,Φk,Φa,Φb,true_and,and_true,false_and,and_false,true_implies,forall_const,false_implies,ne_eq,not_true_eq_false,not_false_eq_true,decide_true,decide_false,Φu,and_self,true_or,or_true,dite_true,dite_false,Φe,Φc,decide_eq_true_eq,decide_eq_false_iff_not,Φf,Φh,Φg,Φj,beq_self_eq_true,Φp,Φq,Φr,Φl,Φm,eq_self,hP,h13_45,h13_6,h13_7]
                      · rfl
                      · rw [onB, if_neg hc29]; simp at hc37 hc45; simp [hc37, hc45]
                    · clear hX21 hY21 X21 Y21
                      refine SX.skip ?_
                      simp only [Φi, Φv, Φs, Φt, Φx, Φw, Φd, if_true, if_false, reduceIte]
                      refine hK12 o _ (some (bn, .cells #[.int .i64 l, .int .i64 c, .bool o, .int .i64 g1] 24 (0, 0)) :: some (br, .cells #[.int .i64 0, .int .i64 0, .bool false, .int .i64 0] 24 (0, 0)) :: some (bd, .cells #[.int .u8 code, .int .u16 ad, .bool rd, .bool wr, .bool own, .int .u8 data, .int .u8 port, .bool pulse] 49 (0, 0)) :: some (bx, .cells #[.int .i64 l, .int .i64 c, .bool o, .int .i64 g] 24 (0, 0)) :: L) _ (by first | exact Less.refl _ | exact Less.drop _ _ | exact Less.drops (Less.drop _ _) | exact Less.drops (Less.drops (Less.drop _ _)) | exact Less.drops (Less.drops (Less.drops (Less.drop _ _))) | exact Less.drops (Less.drops (Less.drops (Less.drops (Less.drop _ _))))) ?_
                      try dsimp only
                      refine ⟨?_, ?_, ?_, ?_⟩
                      · simp (maxSteps := 1000000) only [ΦY,Φy,Φz,ΦL,ev,Φi,Φv,Φs,Φt,Φx,Φw,Φd,Φn,reduceIte,reduceCtorEq,if_true,if_false,Φo,Φk,Φa,Φb,true_and,and_true,false_and,and_false,true_implies,forall_const,false_implies,ne_eq,not_true_eq_false,not_false_eq_true,decide_true,decide_false,Φu,and_self,true_or,or_true,dite_true,dite_false,Φe,Φc,decide_eq_true_eq,decide_eq_false_iff_not,Φf,Φh,Φg,Φj,beq_self_eq_true,Φp,Φq,Φr,Φl,Φm,eq_self,hP,h13_45,h13_6,h13_7]
                      · simp (maxSteps := 1000000) only [ΦY,Φy,Φz,ΦL,ev,Φi,Φv,Φs,Φt,Φx,Φw,Φd,Φn,reduceIte,reduceCtorEq,if_true,if_false,Φo,Φk,Φa,Φb,true_and,and_true,false_and,and_false,true_implies,forall_const,false_implies,ne_eq,not_true_eq_false,not_false_eq_true,decide_true,decide_false,Φu,and_self,true_or,or_true,dite_true,dite_false,Φe,Φc,decide_eq_true_eq,decide_eq_false_iff_not,Φf,Φh,Φg,Φj,beq_self_eq_true,Φp,Φq,Φr,Φl,Φm,eq_self,hP,h13_45,h13_6,h13_7]
                      · rfl
                      · rw [onB, if_neg hc29]; cases rd <;> cases wr <;> simp_all
        · intro o1 T14 L14 hI
          try dsimp only at hI 
          simp only [h7_6, h7_7] at hI 
          obtain ⟨h14_6, h14_7, hL14, ho1⟩ := hI
          replace hL14 := hL14.symm
          subst hL14
          clear h7_2 h7_4 h7_6 h7_7 T7
          refine SX.seq_k fun K22 hK22 => ?_
          refine SX.region ?_
          simp (maxSteps := 1000000) only [ΦY,Φy,Φz,ΦL,ev,Φi,Φv,Φs,Φt,Φx,Φw,Φd,Φn,reduceIte,reduceCtorEq,if_true,if_false,Φo,Φk,Φa,Φb,true_and,and_true,false_and,and_false,true_implies,forall_const,false_implies,ne_eq,not_true_eq_false,not_false_eq_true,decide_true,decide_false,Φu,and_self,true_or,or_true,dite_true,dite_false,Φe,Φc,decide_eq_true_eq,decide_eq_false_iff_not,Φf,Φh,Φg,Φj,beq_self_eq_true,Φp,Φq,Φr,Φl,Φm,eq_self,Ψx,Ψm,Ψn,VCops,VQops,Ψv,putVC,VC,VQ,ΦU,ΦV,ΦN,ΦO,ΦE,ΦF,ΦI,List.getElem?_cons_zero,List.getElem?_cons_succ,List.getElem?_nil,List.getElem?_toArray,Ψd,Ψi,ΦP,ΦA,ΦB,ΦT,ΦM,ΦW,ΦJ,ΦQ,ΦR,ΦX,ΦG,ΦH,ΦZ,ΦC,ΦD,Ψa,ΦK,Ψj,ΦS,Ψb,Ψe,Ψf,Ψg,Ψh,Ψo,exists_eq_left,exists_eq_left',exists_const,Ψs,Ψp,Ψq,fa_ptr,Ψu,Ψl,Ψw,Ψc,Ψr,Ψt,Ψk,T.elA_24,T.lay_24,T.szA_24,T.zr_24,Tryd.underlying24,ld_ptr,loadVC,loadN,T.szA_3,T.zr_3,Tryd.underlying3,bin_add,bin_adds,st_ptr,storeVC,setN,cells_int,cells_bool,ΨB,Ψz,ΨD,cells_agg,oneB_nil,oneB_cons,one_int,one_bool,one_string,ΨE,one_slice,one_map,one_func,ΨF,ΨC,one_iface,cells_map,cells_func,ΨA,Ψy,ΨG,hP,h14_6,h14_7,w2]
          refine ⟨_, Cell.at 0 rfl rfl, ?_⟩
          try simp (maxSteps := 1000000) only [ΦY,Φy,Φz,ΦL,ev,Φi,Φv,Φs,Φt,Φx,Φw,Φd,Φn,reduceIte,reduceCtorEq,if_true,if_false,Φo,Φk,Φa,Φb,true_and,and_true,false_and,and_false,true_implies,forall_const,false_implies,ne_eq,not_true_eq_false,not_false_eq_true,decide_true,decide_false,Φu,and_self,true_or,or_true,dite_true,dite_false,Φe,Φc,decide_eq_true_eq,decide_eq_false_iff_not,Φf,Φh,Φg,Φj,beq_self_eq_true,Φp,Φq,Φr,Φl,Φm,eq_self,Ψx,Ψm,Ψn,VCops,VQops,Ψv,putVC,VC,VQ,ΦU,ΦV,ΦN,ΦO,ΦE,ΦF,ΦI,List.getElem?_cons_zero,List.getElem?_cons_succ,List.getElem?_nil,List.getElem?_toArray,Ψd,Ψi,ΦP,ΦA,ΦB,ΦT,ΦM,ΦW,ΦJ,ΦQ,ΦR,ΦX,ΦG,ΦH,ΦZ,ΦC,ΦD,Ψa,ΦK,Ψj,ΦS,Ψb,Ψe,Ψf,Ψg,Ψh,Ψo,exists_eq_left,exists_eq_left',exists_const,Ψs,Ψp,Ψq,fa_ptr,Ψu,Ψl,Ψw,Ψc,Ψr,Ψt,Ψk,T.elA_24,T.lay_24,T.szA_24,T.zr_24,Tryd.underlying24,ld_ptr,loadVC,loadN,T.szA_3,T.zr_3,Tryd.underlying3,bin_add,bin_adds,st_ptr,storeVC,setN,cells_int,cells_bool,ΨB,Ψz,ΨD,cells_agg,oneB_nil,oneB_cons,one_int,one_bool,one_string,ΨE,one_slice,one_map,one_func,ΨF,ΨC,one_iface,cells_map,cells_func,ΨA,Ψy,ΨG,hP,h14_6,h14_7,w2]
          refine ⟨0, _, _, _, rfl, by first | decide | simp, .inr (by first | decide | simp), ?_⟩
          try simp (maxSteps := 1000000) only [ΦY,Φy,Φz,ΦL,ev,Φi,Φv,Φs,Φt,Φx,Φw,Φd,Φn,reduceIte,reduceCtorEq,if_true,if_false,Φo,Φk,Φa,Φb,true_and,and_true,false_and,and_false,true_implies,forall_const,false_implies,ne_eq,not_true_eq_false,not_false_eq_true,decide_true,decide_false,Φu,and_self,true_or,or_true,dite_true,dite_false,Φe,Φc,decide_eq_true_eq,decide_eq_false_iff_not,Φf,Φh,Φg,Φj,beq_self_eq_true,Φp,Φq,Φr,Φl,Φm,eq_self,Ψx,Ψm,Ψn,VCops,VQops,Ψv,putVC,VC,VQ,ΦU,ΦV,ΦN,ΦO,ΦE,ΦF,ΦI,List.getElem?_cons_zero,List.getElem?_cons_succ,List.getElem?_nil,List.getElem?_toArray,Ψd,Ψi,ΦP,ΦA,ΦB,ΦT,ΦM,ΦW,ΦJ,ΦQ,ΦR,ΦX,ΦG,ΦH,ΦZ,ΦC,ΦD,Ψa,ΦK,Ψj,ΦS,Ψb,Ψe,Ψf,Ψg,Ψh,Ψo,exists_eq_left,exists_eq_left',exists_const,Ψs,Ψp,Ψq,fa_ptr,Ψu,Ψl,Ψw,Ψc,Ψr,Ψt,Ψk,T.elA_24,T.lay_24,T.szA_24,T.zr_24,Tryd.underlying24,ld_ptr,loadVC,loadN,T.szA_3,T.zr_3,Tryd.underlying3,bin_add,bin_adds,st_ptr,storeVC,setN,cells_int,cells_bool,ΨB,Ψz,ΨD,cells_agg,oneB_nil,oneB_cons,one_int,one_bool,one_string,ΨE,one_slice,one_map,one_func,ΨF,ΨC,one_iface,cells_map,cells_func,ΨA,Ψy,ΨG,hP,h14_6,h14_7,w2]
          refine hK22 _ _ ?_
          try clear hK22 K22
          refine SX.live [6, 7] (fun T15 hT15 => ?_)
          simp only [ΨH,forall_mem_nil',ΦY,Φy,Φz,ΦL,ev,Φi,Φv,Φs,Φt,Φx,Φw,Φd,Φn,reduceIte,reduceCtorEq,if_true,if_false,Φo,Φk,Φa,Φb,true_and,and_true,false_and,and_false,true_implies,forall_const,false_implies,ne_eq,not_true_eq_false,not_false_eq_true,decide_true,decide_false,Φu,and_self,true_or,or_true,dite_true,dite_false,Φe,Φc,decide_eq_true_eq,decide_eq_false_iff_not,Φf,Φh,Φg,Φj,beq_self_eq_true,Φp,Φq,Φr,Φl,Φm,eq_self,hP,h14_6,h14_7] at hT15
          obtain ⟨h15_6, h15_7⟩ := hT15
          clear h14_6 h14_7 T14
          refine SX.join (fun (ss : (Int) × (Int) × (Int)) T L' => (fun (l1 : Int) (c1 : Int) (g2 : Int) => T 6 = T15 6 ∧ T 7 = T15 7 ∧ L' = some (bn, .cells #[.int .i64 l1, .int .i64 c1, .bool o1, .int .i64 g2] 24 (0, 0)) :: some (br, .cells #[.int .i64 0, .int .i64 0, .bool false, .int .i64 0] 24 (0, 0)) :: some (bd, .cells #[.int .u8 code, .int .u16 ad, .bool rd, .bool wr, .bool own, .int .u8 data, .int .u8 port, .bool pulse] 49 (0, 0)) :: some (bx, .cells #[.int .i64 l, .int .i64 c, .bool o, .int .i64 g] 24 (0, 0)) :: L ∧ ((c + 1 = 14 → l1 = l + 1 ∧ c1 = 0 ∧ g2 = 0) ∧ (¬ c + 1 = 14 → l1 = l ∧ c1 = c + 1 ∧ g2 = g1))) (ss.1) (ss.2.1) (ss.2.2)) (fun K23 hK23 => ?_) ?_
          · simp only [h15_6, h15_7] at hK23
            refine SX.seq_k fun K24 hK24 => ?_
            refine SX.region ?_
            simp (maxSteps := 1000000) only [ΦY,Φy,Φz,ΦL,ev,Φi,Φv,Φs,Φt,Φx,Φw,Φd,Φn,reduceIte,reduceCtorEq,if_true,if_false,Φo,Φk,Φa,Φb,true_and,and_true,false_and,and_false,true_implies,forall_const,false_implies,ne_eq,not_true_eq_false,not_false_eq_true,decide_true,decide_false,Φu,and_self,true_or,or_true,dite_true,dite_false,Φe,Φc,decide_eq_true_eq,decide_eq_false_iff_not,Φf,Φh,Φg,Φj,beq_self_eq_true,Φp,Φq,Φr,Φl,Φm,eq_self,Ψx,Ψm,Ψn,VCops,VQops,Ψv,putVC,VC,VQ,ΦU,ΦV,ΦN,ΦO,ΦE,ΦF,ΦI,List.getElem?_cons_zero,List.getElem?_cons_succ,List.getElem?_nil,List.getElem?_toArray,Ψd,Ψi,ΦP,ΦA,ΦB,ΦT,ΦM,ΦW,ΦJ,ΦQ,ΦR,ΦX,ΦG,ΦH,ΦZ,ΦC,ΦD,Ψa,ΦK,Ψj,ΦS,Ψb,Ψe,Ψf,Ψg,Ψh,Ψo,exists_eq_left,exists_eq_left',exists_const,Ψs,Ψp,Ψq,fa_ptr,Ψu,Ψl,Ψw,Ψc,Ψr,Ψt,Ψk,T.elA_24,T.lay_24,T.szA_24,T.zr_24,Tryd.underlying24,ld_ptr,loadVC,loadN,T.szA_3,T.zr_3,Tryd.underlying3,bin_eql,bin_eqlb,bin_eqls,bin_eqla,hP,h15_6,h15_7]
            refine ⟨_, Cell.at 0 rfl rfl, ?_⟩
            try simp (maxSteps := 1000000) only [ΦY,Φy,Φz,ΦL,ev,Φi,Φv,Φs,Φt,Φx,Φw,Φd,Φn,reduceIte,reduceCtorEq,if_true,if_false,Φo,Φk,Φa,Φb,true_and,and_true,false_and,and_false,true_implies,forall_const,false_implies,ne_eq,not_true_eq_false,not_false_eq_true,decide_true,decide_false,Φu,and_self,true_or,or_true,dite_true,dite_false,Φe,Φc,decide_eq_true_eq,decide_eq_false_iff_not,Φf,Φh,Φg,Φj,beq_self_eq_true,Φp,Φq,Φr,Φl,Φm,eq_self,Ψx,Ψm,Ψn,VCops,VQops,Ψv,putVC,VC,VQ,ΦU,ΦV,ΦN,ΦO,ΦE,ΦF,ΦI,List.getElem?_cons_zero,List.getElem?_cons_succ,List.getElem?_nil,List.getElem?_toArray,Ψd,Ψi,ΦP,ΦA,ΦB,ΦT,ΦM,ΦW,ΦJ,ΦQ,ΦR,ΦX,ΦG,ΦH,ΦZ,ΦC,ΦD,Ψa,ΦK,Ψj,ΦS,Ψb,Ψe,Ψf,Ψg,Ψh,Ψo,exists_eq_left,exists_eq_left',exists_const,Ψs,Ψp,Ψq,fa_ptr,Ψu,Ψl,Ψw,Ψc,Ψr,Ψt,Ψk,T.elA_24,T.lay_24,T.szA_24,T.zr_24,Tryd.underlying24,ld_ptr,loadVC,loadN,T.szA_3,T.zr_3,Tryd.underlying3,bin_eql,bin_eqlb,bin_eqls,bin_eqla,hP,h15_6,h15_7]
            refine hK24 _ _ ?_
            try clear hK24 K24
            refine SX.cond_k fun X25 Y25 hX25 hY25 => ?_
            simp (maxSteps := 1000000) only [ΦY,Φy,Φz,ΦL,ev,Φi,Φv,Φs,Φt,Φx,Φw,Φd,Φn,reduceIte,reduceCtorEq,if_true,if_false,Φo,Φk,Φa,Φb,true_and,and_true,false_and,and_false,true_implies,forall_const,false_implies,ne_eq,not_true_eq_false,not_false_eq_true,decide_true,decide_false,Φu,and_self,true_or,or_true,dite_true,dite_false,Φe,Φc,decide_eq_true_eq,decide_eq_false_iff_not,Φf,Φh,Φg,Φj,beq_self_eq_true,Φp,Φq,Φr,Φl,Φm,eq_self,hP,h15_6,h15_7,condVC]
            refine ⟨fun hc53 => hX25 ?_, fun hc53 => hY25 ?_⟩
            · clear hX25 hY25 X25 Y25
              refine SX.seq_k fun K26 hK26 => ?_
              refine SX.region ?_
              simp (maxSteps := 1000000) only [ΦY,Φy,Φz,ΦL,ev,Φi,Φv,Φs,Φt,Φx,Φw,Φd,Φn,reduceIte,reduceCtorEq,if_true,if_false,Φo,Φk,Φa,Φb,true_and,and_true,false_and,and_false,true_implies,forall_const,false_implies,ne_eq,not_true_eq_false,not_false_eq_true,decide_true,decide_false,Φu,and_self,true_or,or_true,dite_true,dite_false,Φe,Φc,decide_eq_true_eq,decide_eq_false_iff_not,Φf,Φh,Φg,Φj,beq_self_eq_true,Φp,Φq,Φr,Φl,Φm,eq_self,Ψx,Ψm,Ψn,VCops,VQops,Ψv,putVC,VC,VQ,ΦU,ΦV,ΦN,ΦO,ΦE,ΦF,ΦI,List.getElem?_cons_zero,List.getElem?_cons_succ,List.getElem?_nil,List.getElem?_toArray,Ψd,Ψi,ΦP,ΦA,ΦB,ΦT,ΦM,ΦW,ΦJ,ΦQ,ΦR,ΦX,ΦG,ΦH,ΦZ,ΦC,ΦD,Ψa,ΦK,Ψj,ΦS,Ψb,Ψe,Ψf,Ψg,Ψh,Ψo,exists_eq_left,exists_eq_left',exists_const,Ψs,Ψp,Ψq,fa_ptr,Ψu,Ψl,Ψw,Ψc,Ψr,Ψt,Ψk,T.elA_24,T.lay_24,T.szA_24,T.zr_24,Tryd.underlying24,st_ptr,storeVC,setN,cells_int,cells_bool,ΨB,Ψz,ΨD,cells_agg,oneB_nil,oneB_cons,one_int,one_bool,one_string,ΨE,one_slice,one_map,one_func,ΨF,ΨC,one_iface,cells_map,cells_func,ΨA,Ψy,ΨG,T.szA_3,T.zr_3,Tryd.underlying3,hP,h15_6,h15_7]
              refine ⟨0, _, _, _, rfl, by first | decide | simp, .inr (by first | decide | simp), ?_⟩
              try simp (maxSteps := 1000000) only [ΦY,Φy,Φz,ΦL,ev,Φi,Φv,Φs,Φt,Φx,Φw,Φd,Φn,reduceIte,reduceCtorEq,if_true,if_false,Φo,Φk,Φa,Φb,true_and,and_true,false_and,and_false,true_implies,forall_const,false_implies,ne_eq,not_true_eq_false,not_false_eq_true,decide_true,decide_false,Φu,and_self,true_or,or_true,dite_true,dite_false,Φe,Φc,decide_eq_true_eq,decide_eq_false_iff_not,Φf,Φh,Φg,Φj,beq_self_eq_true,Φp,Φq,Φr,Φl,Φm,eq_self,Ψx,Ψm,Ψn,VCops,VQops,Ψv,putVC,VC,VQ,ΦU,ΦV,ΦN,ΦO,ΦE,ΦF,ΦI,List.getElem?_cons_zero,List.getElem?_cons_succ,List.getElem?_nil,List.getElem?_toArray,Ψd,Ψi,ΦP,ΦA,ΦB,ΦT,ΦM,ΦW,ΦJ,ΦQ,ΦR,ΦX,ΦG,ΦH,ΦZ,ΦC,ΦD,Ψa,ΦK,Ψj,ΦS,Ψb,Ψe,Ψf,Ψg,Ψh,Ψo,exists_eq_left,exists_eq_left',exists_const,Ψs,Ψp,Ψq,fa_ptr,Ψu,Ψl,Ψw,Ψc,Ψr,Ψt,Ψk,T.elA_24,T.lay_24,T.szA_24,T.zr_24,Tryd.underlying24,st_ptr,storeVC,setN,cells_int,cells_bool,ΨB,Ψz,ΨD,cells_agg,oneB_nil,oneB_cons,one_int,one_bool,one_string,ΨE,one_slice,one_map,one_func,ΨF,ΨC,one_iface,cells_map,cells_func,ΨA,Ψy,ΨG,T.szA_3,T.zr_3,Tryd.underlying3,hP,h15_6,h15_7]
              refine hK26 _ _ ?_
              try clear hK26 K26
              refine SX.seq_k fun K27 hK27 => ?_
              refine SX.region ?_
              simp (maxSteps := 1000000) only [ΦY,Φy,Φz,ΦL,ev,Φi,Φv,Φs,Φt,Φx,Φw,Φd,Φn,reduceIte,reduceCtorEq,if_true,if_false,Φo,Φk,Φa,Φb,true_and,and_true,false_and,and_false,true_implies,forall_const,false_implies,ne_eq,not_true_eq_false,not_false_eq_true,decide_true,decide_false,Φu,and_self,true_or,or_true,dite_true,dite_false,Φe,Φc,decide_eq_true_eq,decide_eq_false_iff_not,Φf,Φh,Φg,Φj,beq_self_eq_true,Φp,Φq,Φr,Φl,Φm,eq_self,Ψx,Ψm,Ψn,VCops,VQops,Ψv,putVC,VC,VQ,ΦU,ΦV,ΦN,ΦO,ΦE,ΦF,ΦI,List.getElem?_cons_zero,List.getElem?_cons_succ,List.getElem?_nil,List.getElem?_toArray,Ψd,Ψi,ΦP,ΦA,ΦB,ΦT,ΦM,ΦW,ΦJ,ΦQ,ΦR,ΦX,ΦG,ΦH,ΦZ,ΦC,ΦD,Ψa,ΦK,Ψj,ΦS,Ψb,Ψe,Ψf,Ψg,Ψh,Ψo,exists_eq_left,exists_eq_left',exists_const,Ψs,Ψp,Ψq,fa_ptr,Ψu,Ψl,Ψw,Ψc,Ψr,Ψt,Ψk,T.elA_24,T.lay_24,T.szA_24,T.zr_24,Tryd.underlying24,st_ptr,storeVC,setN,cells_int,cells_bool,ΨB,Ψz,ΨD,cells_agg,oneB_nil,oneB_cons,one_int,one_bool,one_string,ΨE,one_slice,one_map,one_func,ΨF,ΨC,one_iface,cells_map,cells_func,ΨA,Ψy,ΨG,T.szA_3,T.zr_3,Tryd.underlying3,hP,h15_6,h15_7]
              refine ⟨0, _, _, _, rfl, by first | decide | simp, .inr (by first | decide | simp), ?_⟩
              try simp (maxSteps := 1000000) only [ΦY,Φy,Φz,ΦL,ev,Φi,Φv,Φs,Φt,Φx,Φw,Φd,Φn,reduceIte,reduceCtorEq,if_true,if_false,Φo,Φk,Φa,Φb,true_and,and_true,false_and,and_false,true_implies,forall_const,false_implies,ne_eq,not_true_eq_false,not_false_eq_true,decide_true,decide_false,Φu,and_self,true_or,or_true,dite_true,dite_false,Φe,Φc,decide_eq_true_eq,decide_eq_false_iff_not,Φf,Φh,Φg,Φj,beq_self_eq_true,Φp,Φq,Φr,Φl,Φm,eq_self,Ψx,Ψm,Ψn,VCops,VQops,Ψv,putVC,VC,VQ,ΦU,ΦV,ΦN,ΦO,ΦE,ΦF,ΦI,List.getElem?_cons_zero,List.getElem?_cons_succ,List.getElem?_nil,List.getElem?_toArray,Ψd,Ψi,ΦP,ΦA,ΦB,ΦT,ΦM,ΦW,ΦJ,ΦQ,ΦR,ΦX,ΦG,ΦH,ΦZ,ΦC,ΦD,Ψa,ΦK,Ψj,ΦS,Ψb,Ψe,Ψf,Ψg,Ψh,Ψo,exists_eq_left,exists_eq_left',exists_const,Ψs,Ψp,Ψq,fa_ptr,Ψu,Ψl,Ψw,Ψc,Ψr,Ψt,Ψk,T.elA_24,T.lay_24,T.szA_24,T.zr_24,Tryd.underlying24,st_ptr,storeVC,setN,cells_int,cells_bool,ΨB,Ψz,ΨD,cells_agg,oneB_nil,oneB_cons,one_int,one_bool,one_string,ΨE,one_slice,one_map,one_func,ΨF,ΨC,one_iface,cells_map,cells_func,ΨA,Ψy,ΨG,T.szA_3,T.zr_3,Tryd.underlying3,hP,h15_6,h15_7]
              refine hK27 _ _ ?_
              try clear hK27 K27
              refine SX.region ?_
              simp (maxSteps := 1000000) only [ΦY,Φy,Φz,ΦL,ev,Φi,Φv,Φs,Φt,Φx,Φw,Φd,Φn,reduceIte,reduceCtorEq,if_true,if_false,Φo,Φk,Φa,Φb,true_and,and_true,false_and,and_false,true_implies,forall_const,false_implies,ne_eq,not_true_eq_false,not_false_eq_true,decide_true,decide_false,Φu,and_self,true_or,or_true,dite_true,dite_false,Φe,Φc,decide_eq_true_eq,decide_eq_false_iff_not,Φf,Φh,Φg,Φj,beq_self_eq_true,Φp,Φq,Φr,Φl,Φm,eq_self,Ψx,Ψm,Ψn,VCops,VQops,Ψv,putVC,VC,VQ,ΦU,ΦV,ΦN,ΦO,ΦE,ΦF,ΦI,List.getElem?_cons_zero,List.getElem?_cons_succ,List.getElem?_nil,List.getElem?_toArray,Ψd,Ψi,ΦP,ΦA,ΦB,ΦT,ΦM,ΦW,ΦJ,ΦQ,ΦR,ΦX,ΦG,ΦH,ΦZ,ΦC,ΦD,Ψa,ΦK,Ψj,ΦS,Ψb,Ψe,Ψf,Ψg,Ψh,Ψo,exists_eq_left,exists_eq_left',exists_const,Ψs,Ψp,Ψq,fa_ptr,Ψu,Ψl,Ψw,Ψc,Ψr,Ψt,Ψk,T.elA_24,T.lay_24,T.szA_24,T.zr_24,Tryd.underlying24,ld_ptr,loadVC,loadN,T.szA_3,T.zr_3,Tryd.underlying3,bin_add,bin_adds,st_ptr,storeVC,setN,cells_int,cells_bool,ΨB,Ψz,ΨD,cells_agg,oneB_nil,oneB_cons,one_int,one_bool,one_string,ΨE,one_slice,one_map,one_func,ΨF,ΨC,one_iface,cells_map,cells_func,ΨA,Ψy,ΨG,hP,h15_6,h15_7,w3]
              refine ⟨_, Cell.at 0 rfl rfl, ?_⟩
              try simp (maxSteps := 1000000) only [ΦY,Φy,Φz,ΦL,ev,Φi,Φv,Φs,Φt,Φx,Φw,Φd,Φn,reduceIte,reduceCtorEq,if_true,if_false,Φo,Φk,Φa,Φb,true_and,and_true,false_and,and_false,true_implies,forall_const,false_implies,ne_eq,not_true_eq_false,not_false_eq_true,decide_true,decide_false,Φu,and_self,true_or,or_true,dite_true,dite_false,Φe,Φc,decide_eq_true_eq,decide_eq_false_iff_not,Φf,Φh,Φg,Φj,beq_self_eq_true,Φp,Φq,Φr,Φl,Φm,eq_self,Ψx,Ψm,Ψn,VCops,VQops,Ψv,putVC,VC,VQ,ΦU,ΦV,ΦN,ΦO,ΦE,ΦF,ΦI,List.getElem?_cons_zero,List.getElem?_cons_succ,List.getElem?_nil,List.getElem?_toArray,Ψd,Ψi,ΦP,ΦA,ΦB,ΦT,ΦM,ΦW,ΦJ,ΦQ,ΦR,ΦX,ΦG,ΦH,ΦZ,ΦC,ΦD,Ψa,ΦK,Ψj,ΦS,Ψb,Ψe,Ψf,Ψg,Ψh,Ψo,exists_eq_left,exists_eq_left',exists_const,Ψs,Ψp,Ψq,fa_ptr,Ψu,Ψl,Ψw,Ψc,Ψr,Ψt,Ψk,T.elA_24,T.lay_24,T.szA_24,T.zr_24,Tryd.underlying24,ld_ptr,loadVC,loadN,T.szA_3,T.zr_3,Tryd.underlying3,bin_add,bin_adds,st_ptr,storeVC,setN,cells_int,cells_bool,ΨB,Ψz,ΨD,cells_agg,oneB_nil,oneB_cons,one_int,one_bool,one_string,ΨE,one_slice,one_map,one_func,ΨF,ΨC,one_iface,cells_map,cells_func,ΨA,Ψy,ΨG,hP,h15_6,h15_7,w3]
              refine ⟨0, _, _, _, rfl, by first | decide | simp, .inr (by first | decide | simp), ?_⟩
              try simp (maxSteps := 1000000) only [ΦY,Φy,Φz,ΦL,ev,Φi,Φv,Φs,Φt,Φx,Φw,Φd,Φn,reduceIte,reduceCtorEq,if_true,if_false,Φo,Φk,Φa,Φb,true_and,and_true,false_and,and_false,true_implies,forall_const,false_implies,ne_eq,not_true_eq_false,not_false_eq_true,decide_true,decide_false,Φu,and_self,true_or,or_true,dite_true,dite_false,Φe,Φc,decide_eq_true_eq,decide_eq_false_iff_not,Φf,Φh,Φg,Φj,beq_self_eq_true,Φp,Φq,Φr,Φl,Φm,eq_self,Ψx,Ψm,Ψn,VCops,VQops,Ψv,putVC,VC,VQ,ΦU,ΦV,ΦN,ΦO,ΦE,ΦF,ΦI,List.getElem?_cons_zero,List.getElem?_cons_succ,List.getElem?_nil,List.getElem?_toArray,Ψd,Ψi,ΦP,ΦA,ΦB,ΦT,ΦM,ΦW,ΦJ,ΦQ,ΦR,ΦX,ΦG,ΦH,ΦZ,ΦC,ΦD,Ψa,ΦK,Ψj,ΦS,Ψb,Ψe,Ψf,Ψg,Ψh,Ψo,exists_eq_left,exists_eq_left',exists_const,Ψs,Ψp,Ψq,fa_ptr,Ψu,Ψl,Ψw,Ψc,Ψr,Ψt,Ψk,T.elA_24,T.lay_24,T.szA_24,T.zr_24,Tryd.underlying24,ld_ptr,loadVC,loadN,T.szA_3,T.zr_3,Tryd.underlying3,bin_add,bin_adds,st_ptr,storeVC,setN,cells_int,cells_bool,ΨB,Ψz,ΨD,cells_agg,oneB_nil,oneB_cons,one_int,one_bool,one_string,ΨE,one_slice,one_map,one_func,ΨF,ΨC,one_iface,cells_map,cells_func,ΨA,Ψy,ΨG,hP,h15_6,h15_7,w3]
              refine hK23 (l + 1, 0, 0) _ (some (bn, .cells #[.int .i64 (l + 1), .int .i64 0, .bool o1, .int .i64 0] 24 (0, 0)) :: some (br, .cells #[.int .i64 0, .int .i64 0, .bool false, .int .i64 0] 24 (0, 0)) :: some (bd, .cells #[.int .u8 code, .int .u16 ad, .bool rd, .bool wr, .bool own, .int .u8 data, .int .u8 port, .bool pulse] 49 (0, 0)) :: some (bx, .cells #[.int .i64 l, .int .i64 c, .bool o, .int .i64 g] 24 (0, 0)) :: L) _ (by first | exact Less.refl _ | exact Less.drop _ _ | exact Less.drops (Less.drop _ _) | exact Less.drops (Less.drops (Less.drop _ _)) | exact Less.drops (Less.drops (Less.drops (Less.drop _ _))) | exact Less.drops (Less.drops (Less.drops (Less.drops (Less.drop _ _))))) ?_
              try dsimp only
              refine ⟨?_, ?_, ?_, ?_⟩
              · simp (maxSteps := 1000000) only [ΦY,Φy,Φz,ΦL,ev,Φi,Φv,Φs,Φt,Φx,Φw,Φd,Φn,reduceIte,reduceCtorEq,if_true,if_false,Φo,Φk,Φa,Φb,true_and,and_true,false_and,and_false,true_implies,forall_const,false_implies,ne_eq,not_true_eq_false,not_false_eq_true,decide_true,decide_false,Φu,and_self,true_or,or_true,dite_true,dite_false,Φe,Φc,decide_eq_true_eq,decide_eq_false_iff_not,Φf,Φh,Φg,Φj,beq_self_eq_true,Φp,Φq,Φr,Φl,Φm,eq_self,hP,h15_6,h15_7]
              · simp (maxSteps := 1000000) only [ΦY,Φy,Φz,ΦL,ev,Φi,Φv,Φs,Φt,Φx,Φw,Φd,Φn,reduceIte,reduceCtorEq,if_true,if_false,Φo,Φk,Φa,Φb,true_and,and_true,false_and,and_false,true_implies,forall_const,false_implies,ne_eq,not_true_eq_false,not_false_eq_true,decide_true,decide_false,Φu,and_self,true_or,or_true,dite_true,dite_false,Φe,Φc,decide_eq_true_eq,decide_eq_false_iff_not,Φf,Φh,Φg,Φj,beq_self_eq_true,Φp,Φq,Φr,Φl,Φm,eq_self,hP,h15_6,h15_7]
              · rfl
              · exact ⟨fun _ => ⟨rfl, rfl, rfl⟩, fun h => absurd hc53 h⟩
            · clear hX25 hY25 X25 Y25
              refine SX.skip ?_
              simp only [Φi, Φv, Φs, Φt, Φx, Φw, Φd, if_true, if_false, reduceIte]
              refine hK23 (l, c + 1, g1) _ (some (bn, .cells #[.int .i64 l, .int .i64 (c + 1), .bool o1, .int .i64 g1] 24 (0, 0)) :: some (br, .cells #[.int .i64 0, .int .i64 0, .bool false, .int .i64 0] 24 (0, 0)) :: some (bd, .cells #[.int .u8 code, .int .u16 ad, .bool rd, .bool wr, .bool own, .int .u8 data, .int .u8 port, .bool pulse] 49 (0, 0)) :: some (bx, .cells #[.int .i64 l, .int .i64 c, .bool o, .int .i64 g] 24 (0, 0)) :: L) _ (by first | exact Less.refl _ | exact Less.drop _ _ | exact Less.drops (Less.drop _ _) | exact Less.drops (Less.drops (Less.drop _ _)) | exact Less.drops (Less.drops (Less.drops (Less.drop _ _))) | exact Less.drops (Less.drops (Less.drops (Less.drops (Less.drop _ _))))) ?_
              try dsimp only
              refine ⟨?_, ?_, ?_, ?_⟩
              · simp (maxSteps := 1000000) only [ΦY,Φy,Φz,ΦL,ev,Φi,Φv,Φs,Φt,Φx,Φw,Φd,Φn,reduceIte,reduceCtorEq,if_true,if_false,Φo,Φk,Φa,Φb,true_and,and_true,false_and,and_false,true_implies,forall_const,false_implies,ne_eq,not_true_eq_false,not_false_eq_true,decide_true,decide_false,Φu,and_self,true_or,or_true,dite_true,dite_false,Φe,Φc,decide_eq_true_eq,decide_eq_false_iff_not,Φf,Φh,Φg,Φj,beq_self_eq_true,Φp,Φq,Φr,Φl,Φm,eq_self,hP,h15_6,h15_7]
              · simp (maxSteps := 1000000) only [ΦY,Φy,Φz,ΦL,ev,Φi,Φv,Φs,Φt,Φx,Φw,Φd,Φn,reduceIte,reduceCtorEq,if_true,if_false,Φo,Φk,Φa,Φb,true_and,and_true,false_and,and_false,true_implies,forall_const,false_implies,ne_eq,not_true_eq_false,not_false_eq_true,decide_true,decide_false,Φu,and_self,true_or,or_true,dite_true,dite_false,Φe,Φc,decide_eq_true_eq,decide_eq_false_iff_not,Φf,Φh,Φg,Φj,beq_self_eq_true,Φp,Φq,Φr,Φl,Φm,eq_self,hP,h15_6,h15_7]
              · rfl
              · exact ⟨fun h => absurd h hc53, fun _ => ⟨rfl, rfl, rfl⟩⟩
          · intro ss T16 L16 hI
            obtain ⟨l1, c1, g2⟩ := ss
            try dsimp only at hI 
            simp only [h15_6, h15_7] at hI 
            obtain ⟨h16_6, h16_7, hL16, ⟨hx1, hx2⟩⟩ := hI
            replace hL16 := hL16.symm
            subst hL16
            clear h15_6 h15_7 T15
            refine SX.seq_k fun K28 hK28 => ?_
            refine SX.seq_k fun K29 hK29 => ?_
            refine SX.region ?_
            simp (maxSteps := 1000000) only [ΦY,Φy,Φz,ΦL,ev,Φi,Φv,Φs,Φt,Φx,Φw,Φd,Φn,reduceIte,reduceCtorEq,if_true,if_false,Φo,Φk,Φa,Φb,true_and,and_true,false_and,and_false,true_implies,forall_const,false_implies,ne_eq,not_true_eq_false,not_false_eq_true,decide_true,decide_false,Φu,and_self,true_or,or_true,dite_true,dite_false,Φe,Φc,decide_eq_true_eq,decide_eq_false_iff_not,Φf,Φh,Φg,Φj,beq_self_eq_true,Φp,Φq,Φr,Φl,Φm,eq_self,Ψx,Ψm,Ψn,VCops,VQops,Ψv,putVC,VC,VQ,ΦU,ΦV,ΦN,ΦO,ΦE,ΦF,ΦI,List.getElem?_cons_zero,List.getElem?_cons_succ,List.getElem?_nil,List.getElem?_toArray,Ψd,Ψi,ΦP,ΦA,ΦB,ΦT,ΦM,ΦW,ΦJ,ΦQ,ΦR,ΦX,ΦG,ΦH,ΦZ,ΦC,ΦD,Ψa,ΦK,Ψj,ΦS,Ψb,Ψe,Ψf,Ψg,Ψh,Ψo,exists_eq_left,exists_eq_left',exists_const,Ψs,Ψp,Ψq,fa_ptr,Ψu,Ψl,Ψw,Ψc,Ψr,Ψt,Ψk,T.elA_24,T.lay_24,T.szA_24,T.zr_24,Tryd.underlying24,ld_ptr,loadVC,loadN,T.szA_3,T.zr_3,Tryd.underlying3,bin_eql,bin_eqlb,bin_eqls,bin_eqla,hP,h16_6,h16_7]
            refine ⟨_, Cell.at 0 rfl rfl, ?_⟩
            try simp (maxSteps := 1000000) only [ΦY,Φy,Φz,ΦL,ev,Φi,Φv,Φs,Φt,Φx,Φw,Φd,Φn,reduceIte,reduceCtorEq,if_true,if_false,Φo,Φk,Φa,Φb,true_and,and_true,false_and,and_false,true_implies,forall_const,false_implies,ne_eq,not_true_eq_false,not_false_eq_true,decide_true,decide_false,Φu,and_self,true_or,or_true,dite_true,dite_false,Φe,Φc,decide_eq_true_eq,decide_eq_false_iff_not,Φf,Φh,Φg,Φj,beq_self_eq_true,Φp,Φq,Φr,Φl,Φm,eq_self,Ψx,Ψm,Ψn,VCops,VQops,Ψv,putVC,VC,VQ,ΦU,ΦV,ΦN,ΦO,ΦE,ΦF,ΦI,List.getElem?_cons_zero,List.getElem?_cons_succ,List.getElem?_nil,List.getElem?_toArray,Ψd,Ψi,ΦP,ΦA,ΦB,ΦT,ΦM,ΦW,ΦJ,ΦQ,ΦR,ΦX,ΦG,ΦH,ΦZ,ΦC,ΦD,Ψa,ΦK,Ψj,ΦS,Ψb,Ψe,Ψf,Ψg,Ψh,Ψo,exists_eq_left,exists_eq_left',exists_const,Ψs,Ψp,Ψq,fa_ptr,Ψu,Ψl,Ψw,Ψc,Ψr,Ψt,Ψk,T.elA_24,T.lay_24,T.szA_24,T.zr_24,Tryd.underlying24,ld_ptr,loadVC,loadN,T.szA_3,T.zr_3,Tryd.underlying3,bin_eql,bin_eqlb,bin_eqls,bin_eqla,hP,h16_6,h16_7]
            refine hK29 _ _ ?_
            try clear hK29 K29
            refine SX.cond_k fun X30 Y30 hX30 hY30 => ?_
            simp (maxSteps := 1000000) only [ΦY,Φy,Φz,ΦL,ev,Φi,Φv,Φs,Φt,Φx,Φw,Φd,Φn,reduceIte,reduceCtorEq,if_true,if_false,Φo,Φk,Φa,Φb,true_and,and_true,false_and,and_false,true_implies,forall_const,false_implies,ne_eq,not_true_eq_false,not_false_eq_true,decide_true,decide_false,Φu,and_self,true_or,or_true,dite_true,dite_false,Φe,Φc,decide_eq_true_eq,decide_eq_false_iff_not,Φf,Φh,Φg,Φj,beq_self_eq_true,Φp,Φq,Φr,Φl,Φm,eq_self,hP,h16_6,h16_7,condVC]
            refine ⟨fun hc62 => hX30 ?_, fun hc62 => hY30 ?_⟩
            · clear hX30 hY30 X30 Y30
              refine SX.region ?_
              simp (maxSteps := 1000000) only [ΦY,Φy,Φz,ΦL,ev,Φi,Φv,Φs,Φt,Φx,Φw,Φd,Φn,reduceIte,reduceCtorEq,if_true,if_false,Φo,Φk,Φa,Φb,true_and,and_true,false_and,and_false,true_implies,forall_const,false_implies,ne_eq,not_true_eq_false,not_false_eq_true,decide_true,decide_false,Φu,and_self,true_or,or_true,dite_true,dite_false,Φe,Φc,decide_eq_true_eq,decide_eq_false_iff_not,Φf,Φh,Φg,Φj,beq_self_eq_true,Φp,Φq,Φr,Φl,Φm,eq_self,Ψx,Ψm,Ψn,VCops,VQops,Ψv,putVC,VC,VQ,ΦU,ΦV,ΦN,ΦO,ΦE,ΦF,ΦI,List.getElem?_cons_zero,List.getElem?_cons_succ,List.getElem?_nil,List.getElem?_toArray,Ψd,Ψi,ΦP,ΦA,ΦB,ΦT,ΦM,ΦW,ΦJ,ΦQ,ΦR,ΦX,ΦG,ΦH,ΦZ,ΦC,ΦD,Ψa,ΦK,Ψj,ΦS,Ψb,Ψe,Ψf,Ψg,Ψh,Ψo,exists_eq_left,exists_eq_left',exists_const,Ψs,Ψp,Ψq,fa_ptr,Ψu,Ψl,Ψw,Ψc,Ψr,Ψt,Ψk,T.elA_24,T.lay_24,T.szA_24,T.zr_24,Tryd.underlying24,st_ptr,storeVC,setN,cells_int,cells_bool,ΨB,Ψz,ΨD,cells_agg,oneB_nil,oneB_cons,one_int,one_bool,one_string,ΨE,one_slice,one_map,one_func,ΨF,ΨC,one_iface,cells_map,cells_func,ΨA,Ψy,ΨG,T.szA_3,T.zr_3,Tryd.underlying3,hP,h16_6,h16_7]
              refine ⟨0, _, _, _, rfl, by first | decide | simp, .inr (by first | decide | simp), ?_⟩
              try simp (maxSteps := 1000000) only [ΦY,Φy,Φz,ΦL,ev,Φi,Φv,Φs,Φt,Φx,Φw,Φd,Φn,reduceIte,reduceCtorEq,if_true,if_false,Φo,Φk,Φa,Φb,true_and,and_true,false_and,and_false,true_implies,forall_const,false_implies,ne_eq,not_true_eq_false,not_false_eq_true,decide_true,decide_false,Φu,and_self,true_or,or_true,dite_true,dite_false,Φe,Φc,decide_eq_true_eq,decide_eq_false_iff_not,Φf,Φh,Φg,Φj,beq_self_eq_true,Φp,Φq,Φr,Φl,Φm,eq_self,Ψx,Ψm,Ψn,VCops,VQops,Ψv,putVC,VC,VQ,ΦU,ΦV,ΦN,ΦO,ΦE,ΦF,ΦI,List.getElem?_cons_zero,List.getElem?_cons_succ,List.getElem?_nil,List.getElem?_toArray,Ψd,Ψi,ΦP,ΦA,ΦB,ΦT,ΦM,ΦW,ΦJ,ΦQ,ΦR,ΦX,ΦG,ΦH,ΦZ,ΦC,ΦD,Ψa,ΦK,Ψj,ΦS,Ψb,Ψe,Ψf,Ψg,Ψh,Ψo,exists_eq_left,exists_eq_left',exists_const,Ψs,Ψp,Ψq,fa_ptr,Ψu,Ψl,Ψw,Ψc,Ψr,Ψt,Ψk,T.elA_24,T.lay_24,T.szA_24,T.zr_24,Tryd.underlying24,st_ptr,storeVC,setN,cells_int,cells_bool,ΨB,Ψz,ΨD,cells_agg,oneB_nil,oneB_cons,one_int,one_bool,one_string,ΨE,one_slice,one_map,one_func,ΨF,ΨC,one_iface,cells_map,cells_func,ΨA,Ψy,ΨG,T.szA_3,T.zr_3,Tryd.underlying3,hP,h16_6,h16_7]
              refine hK28 _ _ ?_
              try clear hK28 K28
              refine SX.seq_k fun K31 hK31 => ?_
              refine SX.region ?_
              simp (maxSteps := 1000000) only [ΦY,Φy,Φz,ΦL,ev,Φi,Φv,Φs,Φt,Φx,Φw,Φd,Φn,reduceIte,reduceCtorEq,if_true,if_false,Φo,Φk,Φa,Φb,true_and,and_true,false_and,and_false,true_implies,forall_const,false_implies,ne_eq,not_true_eq_false,not_false_eq_true,decide_true,decide_false,Φu,and_self,true_or,or_true,dite_true,dite_false,Φe,Φc,decide_eq_true_eq,decide_eq_false_iff_not,Φf,Φh,Φg,Φj,beq_self_eq_true,Φp,Φq,Φr,Φl,Φm,eq_self,Ψx,Ψm,Ψn,VCops,VQops,Ψv,putVC,VC,VQ,ΦU,ΦV,ΦN,ΦO,ΦE,ΦF,ΦI,List.getElem?_cons_zero,List.getElem?_cons_succ,List.getElem?_nil,List.getElem?_toArray,Ψd,Ψi,ΦP,ΦA,ΦB,ΦT,ΦM,ΦW,ΦJ,ΦQ,ΦR,ΦX,ΦG,ΦH,ΦZ,ΦC,ΦD,Ψa,ΦK,Ψj,ΦS,Ψb,Ψe,Ψf,Ψg,Ψh,Ψo,exists_eq_left,exists_eq_left',exists_const,Ψs,Ψp,Ψq,ld_ptr,loadVC,loadN,Ψu,Ψl,Ψw,Ψc,Ψr,Ψt,Ψk,T.elA_24,T.lay_24,T.szA_24,T.zr_24,Tryd.underlying24,st_ptr,storeVC,setN,cells_int,cells_bool,ΨB,Ψz,ΨD,cells_agg,oneB_nil,oneB_cons,one_int,one_bool,one_string,ΨE,one_slice,one_map,one_func,ΨF,ΨC,one_iface,cells_map,cells_func,ΨA,Ψy,ΨG,hP,h16_6,h16_7]
              refine ⟨_, Cell.at 0 rfl rfl, _, Cell.at 0 rfl rfl, _, Cell.at 0 rfl rfl, _, Cell.at 0 rfl rfl, ?_⟩
              try simp (maxSteps := 1000000) only [ΦY,Φy,Φz,ΦL,ev,Φi,Φv,Φs,Φt,Φx,Φw,Φd,Φn,reduceIte,reduceCtorEq,if_true,if_false,Φo,Φk,Φa,Φb,true_and,and_true,false_and,and_false,true_implies,forall_const,false_implies,ne_eq,not_true_eq_false,not_false_eq_true,decide_true,decide_false,Φu,and_self,true_or,or_true,dite_true,dite_false,Φe,Φc,decide_eq_true_eq,decide_eq_false_iff_not,Φf,Φh,Φg,Φj,beq_self_eq_true,Φp,Φq,Φr,Φl,Φm,eq_self,Ψx,Ψm,Ψn,VCops,VQops,Ψv,putVC,VC,VQ,ΦU,ΦV,ΦN,ΦO,ΦE,ΦF,ΦI,List.getElem?_cons_zero,List.getElem?_cons_succ,List.getElem?_nil,List.getElem?_toArray,Ψd,Ψi,ΦP,ΦA,ΦB,ΦT,ΦM,ΦW,ΦJ,ΦQ,ΦR,ΦX,ΦG,ΦH,ΦZ,ΦC,ΦD,Ψa,ΦK,Ψj,ΦS,Ψb,Ψe,Ψf,Ψg,Ψh,Ψo,exists_eq_left,exists_eq_left',exists_const,Ψs,Ψp,Ψq,ld_ptr,loadVC,loadN,Ψu,Ψl,Ψw,Ψc,Ψr,Ψt,Ψk,T.elA_24,T.lay_24,T.szA_24,T.zr_24,Tryd.underlying24,st_ptr,storeVC,setN,cells_int,cells_bool,ΨB,Ψz,ΨD,cells_agg,oneB_nil,oneB_cons,one_int,one_bool,one_string,ΨE,one_slice,one_map,one_func,ΨF,ΨC,one_iface,cells_map,cells_func,ΨA,Ψy,ΨG,hP,h16_6,h16_7]
              refine ⟨1, _, _, _, rfl, by first | decide | simp, .inr (by first | decide | simp), ?_⟩
              try simp (maxSteps := 1000000) only [ΦY,Φy,Φz,ΦL,ev,Φi,Φv,Φs,Φt,Φx,Φw,Φd,Φn,reduceIte,reduceCtorEq,if_true,if_false,Φo,Φk,Φa,Φb,true_and,and_true,false_and,and_false,true_implies,forall_const,false_implies,ne_eq,not_true_eq_false,not_false_eq_true,decide_true,decide_false,Φu,and_self,true_or,or_true,dite_true,dite_false,Φe,Φc,decide_eq_true_eq,decide_eq_false_iff_not,Φf,Φh,Φg,Φj,beq_self_eq_true,Φp,Φq,Φr,Φl,Φm,eq_self,Ψx,Ψm,Ψn,VCops,VQops,Ψv,putVC,VC,VQ,ΦU,ΦV,ΦN,ΦO,ΦE,ΦF,ΦI,List.getElem?_cons_zero,List.getElem?_cons_succ,List.getElem?_nil,List.getElem?_toArray,Ψd,Ψi,ΦP,ΦA,ΦB,ΦT,ΦM,ΦW,ΦJ,ΦQ,ΦR,ΦX,ΦG,ΦH,ΦZ,ΦC,ΦD,Ψa,ΦK,Ψj,ΦS,Ψb,Ψe,Ψf,Ψg,Ψh,Ψo,exists_eq_left,exists_eq_left',exists_const,Ψs,Ψp,Ψq,ld_ptr,loadVC,loadN,Ψu,Ψl,Ψw,Ψc,Ψr,Ψt,Ψk,T.elA_24,T.lay_24,T.szA_24,T.zr_24,Tryd.underlying24,st_ptr,storeVC,setN,cells_int,cells_bool,ΨB,Ψz,ΨD,cells_agg,oneB_nil,oneB_cons,one_int,one_bool,one_string,ΨE,one_slice,one_map,one_func,ΨF,ΨC,one_iface,cells_map,cells_func,ΨA,Ψy,ΨG,hP,h16_6,h16_7]
              refine hK31 _ _ ?_
              try clear hK31 K31
              refine SX.ret ?_
              simp only [Φi, Φv, Φs, Φt, Φx, Φw, Φd, if_true, if_false, reduceIte, retQ_ret]
              try simp only [res0,res1,res2,res3,resX,resK,oneOr,ld_ptr,loadVC,loadN,ΦT,ΦM,Ψb,Ψg,Ψh,Ψu,Ψl,Ψw,T.elA_24,T.lay_24,T.szA_24,T.zr_24,Tryd.underlying24,ΦY,Φy,Φz,ΦL,ev,Φi,Φv,Φs,Φt,Φx,Φw,Φd,Φn,reduceIte,reduceCtorEq,if_true,if_false,Φo,Φk,Φa,Φb,true_and,and_true,false_and,and_false,true_implies,forall_const,false_implies,ne_eq,not_true_eq_false,not_false_eq_true,decide_true,decide_false,Φu,and_self,true_or,or_true,dite_true,dite_false,Φe,Φc,decide_eq_true_eq,decide_eq_false_iff_not,Φf,Φh,Φg,Φj,beq_self_eq_true,Φp,Φq,Φr,Φl,Φm,eq_self,hP,h16_6,h16_7]
              refine ⟨_, L, (by first | exact Less.refl _ | exact Less.drop _ _ | exact Less.drops (Less.drop _ _) | exact Less.drops (Less.drops (Less.drop _ _)) | exact Less.drops (Less.drops (Less.drops (Less.drop _ _))) | exact Less.drops (Less.drops (Less.drops (Less.drops (Less.drop _ _))))), ⟨_, Cell.at 1 rfl rfl, _, Cell.at 1 rfl rfl, _, Cell.at 1 rfl rfl, _, Cell.at 1 rfl rfl, rfl⟩, ?_, rfl⟩
              rw [step, if_pos ⟨hok, hm3⟩, if_pos (by omega)]
              obtain ⟨e1, e2, e3⟩ := hx1 (by omega)
              rw [e2, e3, ho1, if_pos (by omega)]
            · clear hX30 hY30 X30 Y30
              refine SX.skip ?_
              simp only [Φi, Φv, Φs, Φt, Φx, Φw, Φd, if_true, if_false, reduceIte]
              refine hK28 _ _ ?_
              try clear hK28 K28
              refine SX.seq_k fun K32 hK32 => ?_
              refine SX.region ?_
              simp (maxSteps := 1000000) only [ΦY,Φy,Φz,ΦL,ev,Φi,Φv,Φs,Φt,Φx,Φw,Φd,Φn,reduceIte,reduceCtorEq,if_true,if_false,Φo,Φk,Φa,Φb,true_and,and_true,false_and,and_false,true_implies,forall_const,false_implies,ne_eq,not_true_eq_false,not_false_eq_true,decide_true,decide_false,Φu,and_self,true_or,or_true,dite_true,dite_false,Φe,Φc,decide_eq_true_eq,decide_eq_false_iff_not,Φf,Φh,Φg,Φj,beq_self_eq_true,Φp,Φq,Φr,Φl,Φm,eq_self,Ψx,Ψm,Ψn,VCops,VQops,Ψv,putVC,VC,VQ,ΦU,ΦV,ΦN,ΦO,ΦE,ΦF,ΦI,List.getElem?_cons_zero,List.getElem?_cons_succ,List.getElem?_nil,List.getElem?_toArray,Ψd,Ψi,ΦP,ΦA,ΦB,ΦT,ΦM,ΦW,ΦJ,ΦQ,ΦR,ΦX,ΦG,ΦH,ΦZ,ΦC,ΦD,Ψa,ΦK,Ψj,ΦS,Ψb,Ψe,Ψf,Ψg,Ψh,Ψo,exists_eq_left,exists_eq_left',exists_const,Ψs,Ψp,Ψq,ld_ptr,loadVC,loadN,Ψu,Ψl,Ψw,Ψc,Ψr,Ψt,Ψk,T.elA_24,T.lay_24,T.szA_24,T.zr_24,Tryd.underlying24,st_ptr,storeVC,setN,cells_int,cells_bool,ΨB,Ψz,ΨD,cells_agg,oneB_nil,oneB_cons,one_int,one_bool,one_string,ΨE,one_slice,one_map,one_func,ΨF,ΨC,one_iface,cells_map,cells_func,ΨA,Ψy,ΨG,hP,h16_6,h16_7]
              refine ⟨_, Cell.at 0 rfl rfl, _, Cell.at 0 rfl rfl, _, Cell.at 0 rfl rfl, _, Cell.at 0 rfl rfl, ?_⟩
              try simp (maxSteps := 1000000) only [ΦY,Φy,Φz,ΦL,ev,Φi,Φv,Φs,Φt,Φx,Φw,Φd,Φn,reduceIte,reduceCtorEq,if_true,if_false,Φo,Φk,Φa,Φb,true_and,and_true,false_and,and_false,true_implies,forall_const,false_implies,ne_eq,not_true_eq_false,not_false_eq_true,decide_true,decide_false,Φu,and_self,true_or,or_true,dite_true,dite_false,Φe,Φc,decide_eq_true_eq,decide_eq_false_iff_not,Φf,Φh,Φg,Φj,beq_self_eq_true,Φp,Φq,Φr,Φl,Φm,eq_self,Ψx,Ψm,Ψn,VCops,VQops,Ψv,putVC,VC,VQ,ΦU,ΦV,ΦN,ΦO,ΦE,ΦF,ΦI,List.getElem?_cons_zero,List.getElem?_cons_succ,List.getElem?_nil,List.getElem?_toArray,Ψd,Ψi,ΦP,ΦA,ΦB,ΦT,ΦM,ΦW,ΦJ,ΦQ,ΦR,ΦX,ΦG,ΦH,ΦZ,ΦC,ΦD,Ψa,ΦK,Ψj,ΦS,Ψb,Ψe,Ψf,Ψg,Ψh,Ψo,exists_eq_left,exists_eq_left',exists_const,Ψs,Ψp,Ψq,ld_ptr,loadVC,loadN,Ψu,Ψl,Ψw,Ψc,Ψr,Ψt,Ψk,T.elA_24,T.lay_24,T.szA_24,T.zr_24,Tryd.underlying24,st_ptr,storeVC,setN,cells_int,cells_bool,ΨB,Ψz,ΨD,cells_agg,oneB_nil,oneB_cons,one_int,one_bool,one_string,ΨE,one_slice,one_map,one_func,ΨF,ΨC,one_iface,cells_map,cells_func,ΨA,Ψy,ΨG,hP,h16_6,h16_7]
              refine ⟨1, _, _, _, rfl, by first | decide | simp, .inr (by first | decide | simp), ?_⟩
              try simp (maxSteps := 1000000) only [ΦY,Φy,Φz,ΦL,ev,Φi,Φv,Φs,Φt,Φx,Φw,Φd,Φn,reduceIte,reduceCtorEq,if_true,if_false,Φo,Φk,Φa,Φb,true_and,and_true,false_and,and_false,true_implies,forall_const,false_implies,ne_eq,not_true_eq_false,not_false_eq_true,decide_true,decide_false,Φu,and_self,true_or,or_true,dite_true,dite_false,Φe,Φc,decide_eq_true_eq,decide_eq_false_iff_not,Φf,Φh,Φg,Φj,beq_self_eq_true,Φp,Φq,Φr,Φl,Φm,eq_self,Ψx,Ψm,Ψn,VCops,VQops,Ψv,putVC,VC,VQ,ΦU,ΦV,ΦN,ΦO,ΦE,ΦF,ΦI,List.getElem?_cons_zero,List.getElem?_cons_succ,List.getElem?_nil,List.getElem?_toArray,Ψd,Ψi,ΦP,ΦA,ΦB,ΦT,ΦM,ΦW,ΦJ,ΦQ,ΦR,ΦX,ΦG,ΦH,ΦZ,ΦC,ΦD,Ψa,ΦK,Ψj,ΦS,Ψb,Ψe,Ψf,Ψg,Ψh,Ψo,exists_eq_left,exists_eq_left',exists_const,Ψs,Ψp,Ψq,ld_ptr,loadVC,loadN,Ψu,Ψl,Ψw,Ψc,Ψr,Ψt,Ψk,T.elA_24,T.lay_24,T.szA_24,T.zr_24,Tryd.underlying24,st_ptr,storeVC,setN,cells_int,cells_bool,ΨB,Ψz,ΨD,cells_agg,oneB_nil,oneB_cons,one_int,one_bool,one_string,ΨE,one_slice,one_map,one_func,ΨF,ΨC,one_iface,cells_map,cells_func,ΨA,Ψy,ΨG,hP,h16_6,h16_7]
              refine hK32 _ _ ?_
              try clear hK32 K32
              refine SX.ret ?_
              simp only [Φi, Φv, Φs, Φt, Φx, Φw, Φd, if_true, if_false, reduceIte, retQ_ret]
              try simp only [res0,res1,res2,res3,resX,resK,oneOr,ld_ptr,loadVC,loadN,ΦT,ΦM,Ψb,Ψg,Ψh,Ψu,Ψl,Ψw,T.elA_24,T.lay_24,T.szA_24,T.zr_24,Tryd.underlying24,ΦY,Φy,Φz,ΦL,ev,Φi,Φv,Φs,Φt,Φx,Φw,Φd,Φn,reduceIte,reduceCtorEq,if_true,if_false,Φo,Φk,Φa,Φb,true_and,and_true,false_and,and_false,true_implies,forall_const,false_implies,ne_eq,not_true_eq_false,not_false_eq_true,decide_true,decide_false,Φu,and_self,true_or,or_true,dite_true,dite_false,Φe,Φc,decide_eq_true_eq,decide_eq_false_iff_not,Φf,Φh,Φg,Φj,beq_self_eq_true,Φp,Φq,Φr,Φl,Φm,eq_self,hP,h16_6,h16_7]
              refine ⟨_, L, (by first | exact Less.refl _ | exact Less.drop _ _ | exact Less.drops (Less.drop _ _) | exact Less.drops (Less.drops (Less.drop _ _)) | exact Less.drops (Less.drops (Less.drops (Less.drop _ _))) | exact Less.drops (Less.drops (Less.drops (Less.drops (Less.drop _ _))))), ⟨_, Cell.at 1 rfl rfl, _, Cell.at 1 rfl rfl, _, Cell.at 1 rfl rfl, _, Cell.at 1 rfl rfl, rfl⟩, ?_, rfl⟩
              by_cases h14 : c + 1 = 14
              · obtain ⟨e1, e2, e3⟩ := hx1 h14
                rw [step, if_pos ⟨hok, hm3⟩, if_pos h14, e1, e2, e3, ho1, if_neg (by omega)]
              · obtain ⟨e1, e2, e3⟩ := hx2 h14
                rw [step, if_pos ⟨hok, hm3⟩, if_neg h14, e1, e2, e3, ho1, hg1]
end Go.Proofs.YtpakphgeichopaaDoor
set_option linter.unusedVariables false
set_option linter.unusedSimpArgs false
/-! A range over a function: the round's code, and the iterator's code between two rounds, by the walk by lists. -/
namespace Go.SX
open Go.RowKit
section
variable {Γ : Ctx} {n : Nat} {T : Env} {L : Hp}
/-- In a round, or outside one: no fence else. -/
abbrev FR (ro : Option Nat) : Fence := { Fence.wide with round := ro }
theorem callsIn_FR {ro : Option Nat} {m : Nat} {P : Program} {f : FuncId} {args : Array Value} {w : World} {R : Ending → World → Prop} : CallsIn (FR ro) m P f args w R ↔ Calls P f args w R :=
  callsIn_wide (n := m)
def noDefer (o : Oper) : Bool := match o.op with | .defer _ => false | _ => true
theorem VCops_soundIn {ro : Option Nat} {m : Nat} {ops : Array Oper} {Q : Exit → Act → World → Prop} {l2 : List Oper} : ∀ (l : List Oper) (K : Env → Hp → Prop) (T : Env) (L : Hp), VCops Γ n ops l K T L → (l.all noDefer) = true → ∀ a w, Fits n T a → Inv Γ L w →
    (∀ T L, K T L → ∀ a w, Fits n T a → Inv Γ L w → wpListIn (FR ro) m Γ.P ops Q l2 a w) → wpListIn (FR ro) m Γ.P ops Q (l ++ l2) a w := by
  intro l
  induction l with
  | nil => intro K T L h _ a w hf hi hk; exact hk _ _ h _ _ hf hi
  | cons o rest ih =>
    intro K T L h hd a w hf hi hk
    simp only [List.all_cons, Bool.and_eq_true] at hd
    simp only [VCops] at h
    rw [List.cons_append]
    rcases guardVC_sound hf h with ⟨hw, h⟩ | ⟨hw, h⟩
    · have hy := VC_sound h w hi
      rw [← hf.eval] at hy
      simp only [wpListIn, hw, if_true]
      refine ⟨fun _ _ => trivial, ?_⟩
      have he : o.semAt ro a.eval = execOp a.eval o := Oper.semAt_eq ro a.eval o (fun c hc => by rw [noDefer, hc] at hd; cases hd.1)
      rw [show (FR ro).round = ro from rfl, he]
      revert hy
      generalize (execOp a.eval o).run Γ.P w = r
      intro hy
      cases r with
      | halt x w' => exact hy.elim
      | ok nx w' =>
        cases nx <;> first | exact hy.elim | skip
        case value v =>
          obtain ⟨L', hi', hk'⟩ := hy
          obtain ⟨T', hf', hk'⟩ := putVC_sound hf hk'
          exact ih _ _ _ hk' hd.2 _ _ hf' hi' hk
        case skip =>
          obtain ⟨L', hi', hk'⟩ := hy
          obtain ⟨T', hf', hk'⟩ := putVC_sound hf hk'
          exact ih _ _ _ hk' hd.2 _ _ hf' hi' hk
        case enter f args =>
          refine ⟨fun h => absurd h (by simp [FR, Fence.wide]), callsIn_FR.2 (Calls.mono hy ?_)⟩
          rintro e w'' ⟨v, L', rfl, hi', hk'⟩
          obtain ⟨T', hf', hk'⟩ := putVC_sound hf hk'
          exact ih _ _ _ hk' hd.2 _ _ hf' hi' hk
    · simp only [wpListIn, hw, Bool.false_eq_true, if_false]
      obtain ⟨T', hf', hk'⟩ := putVC_sound hf h
      exact ⟨fun _ _ => trivial, ih _ _ _ hk' hd.2 _ _ hf' hi hk⟩
end

/-! The iterator's code: its own steps turn nothing that lay. -/
/-- The world has gone on by itself: what lay lies as it lay. -/
abbrev Still (P : Program) (w w' : World) : Prop := Inv ⟨P, w, []⟩ [] w'
theorem Still.refl (P : Program) (w : World) : Still P w w := ⟨fun i j b o o' h => by simp at h, fun b o h => by simp at h, fun b o h => by simp at h, rfl, rfl, rfl, Nat.le_refl _, fun _ _ _ => rfl⟩
theorem Still.grown {P : Program} {w w' : World} (h : Still P w w') : w.grownBy w' none := ⟨h.os, h.tape, h.output, h.size, fun k hk _ => h.old k hk (by simp)⟩
theorem Still.block {P : Program} {w w' : World} (h : Still P w w') {k : Nat} (hk : k < w.heap.size) : w'.heap[k]? = w.heap[k]? := h.old k hk (by simp)
/-- The judgement, the world at hand. -/
def GX (P : Program) (n : Nat) (c : Code) (Q : Exit → Env → World → Prop) (T : Env) (w : World) : Prop :=
  ∀ a, Fits n T a → c.wp P (fun e a' w' => ∃ T', Fits n T' a' ∧ Q e T' w') a w
section
variable {P : Program} {n : Nat} {T : Env} {w : World} {Q : Exit → Env → World → Prop}
theorem GX.still {c : Code} (h : SX ⟨P, w, []⟩ n c (fun e T' _ => ∀ w', Still P w w' → Q e T' w') T []) : GX P n c Q T w := fun a hf =>
  Code.wp_mono (fun e a' w' ⟨T', L', h1, h2, h3⟩ => ⟨T', h1, h3 w' (Inv.tail (A := L') (by rw [List.append_nil]; exact h2))⟩) (h a w hf (Still.refl P w))
theorem GX.seq {x y : Code} {K : Env → World → Prop} (h : GX P n x (fun e T' w' => match e with | .normal => K T' w' | e => Q e T' w') T w) (k : ∀ T' w', K T' w' → GX P n y Q T' w') : GX P n (.seq x y) Q T w := fun a hf => by
  refine wp_seq (Code.wp_mono ?_ (h a hf))
  rintro e a' w' ⟨T', h1, h2⟩
  cases e with
  | normal => exact k T' w' h2 a' h1
  | _ => exact ⟨T', h1, h2⟩
theorem GX.block {id : Nat} {c : Code} (h : GX P n c (fun e T' w' => match e with | .exit id' => if id' = id then Q .normal T' w' else Q (.exit id') T' w' | e => Q e T' w') T w) : GX P n (.block id c) Q T w := fun a hf => by
  refine wp_block (Code.wp_mono ?_ (h a hf))
  rintro e a' w' ⟨T', h1, h2⟩
  cases e with
  | exit id' =>
    simp only [Exit.inBlock] at h2 ⊢
    split at h2
    · rename_i e; subst e; simp; exact ⟨T', h1, h2⟩
    · rename_i e; simp [e]; exact ⟨T', h1, h2⟩
  | _ => exact ⟨T', h1, h2⟩
theorem GX.mono {c : Code} {Q' : Exit → Env → World → Prop} (h : GX P n c Q T w) (k : ∀ e T w, Q e T w → Q' e T w) : GX P n c Q' T w := fun a hf =>
  Code.wp_mono (fun e a' w' ⟨T', h1, h2⟩ => ⟨T', h1, k _ _ _ h2⟩) (h a hf)
theorem GX.loop {c : Code} {σ : Type} (I : σ → Env → World → Prop) (μ : σ → Nat) (s₀ : σ) (h₀ : I s₀ T w)
    (round : ∀ s T w, I s T w → GX P n c (fun e T' w' => match e with | .normal => ∃ s', I s' T' w' ∧ μ s' < μ s | e => Q e T' w') T w) : GX P n (.loop c) Q T w := fun a hf => by
  have key : ∀ m s T w, μ s = m → I s T w → ∀ a, Fits n T a → ∀ b k cs,
      ∃ e a' w', (∃ T', Fits n T' a' ∧ Q e T' w') ∧ Arrives P (lone (b.at a (.code c :: .inLoop c :: k)) cs w) b k cs e a' w' := by
    intro m
    induction m using Nat.strongRecOn with
    | _ m ih =>
      intro s T w hm hI a hf b k cs
      obtain ⟨e, a₁, w₁, ⟨T₁, hf₁, hq⟩, harr⟩ := round s T w hI a hf b (.inLoop c :: k) cs
      cases e with
      | normal =>
        obtain ⟨s₁, hI₁, hlt⟩ := hq
        obtain ⟨e₂, a₂, w₂, hq₂, harr₂⟩ := ih (μ s₁) (hm ▸ hlt) s₁ T₁ w₁ rfl hI₁ a₁ hf₁ b k cs
        exact ⟨e₂, a₂, w₂, hq₂, .of_steps (Steps.trans harr (.one step_inLoop)) harr₂⟩
      | _ => exact ⟨_, a₁, w₁, ⟨T₁, hf₁, hq⟩, .pass (x := .inLoop c) rfl (fun _ _ => .inl (by simp)) harr⟩
  intro b k cs
  obtain ⟨e, a', w', hq, harr⟩ := key _ s₀ T w rfl h₀ a hf b k cs
  exact ⟨e, a', w', hq, .of_steps (.one step_loop) harr⟩
theorem GX.cond {o : Operand} {x y : Code} {b : Bool} (hb : ev T o = .bool b) (ht : b = true → GX P n x Q T w) (hf : b = false → GX P n y Q T w) : GX P n (.cond o x y) Q T w := fun a hft =>
  wp_cond_split (t := b) (by rw [hft.eval]; exact hb) (fun h => ht h a hft) (fun h => hf h a hft)
theorem GX.ret (h : Q .ret T w) : GX P n .ret Q T w := fun a hf => wp_ret ⟨T, hf, h⟩
theorem GX.skip (h : Q .normal T w) : GX P n .skip Q T w := fun a hf => wp_skip ⟨T, hf, h⟩
theorem GX.exit {id : Nat} (h : Q (.exit id) T w) : GX P n (.exit id) Q T w := fun a hf => wp_exit ⟨T, hf, h⟩
theorem run_yield {o : Oper} {x : Operand} {cl : Call} {l : Nat} {w : World} (hop : o.op = .call cl) (hcal : cl.callee = .value x) (hx : ev T x = .func (.yield l) #[] #[]) :
    (execOp (ev T) o).run P w = (Instr.yield l (cl.args.map (ev T))).run P w := by
  simp [execOp, hop, resolve, hcal, hx, Deferred.ofValue, invoke]
/-- A region in which a round is run: l1 ahead of the call of yield, l2 behind it. -/
theorem GX.yields {id : Nat} {l1 l2 : List Oper} {o : Oper} {x : Operand} {cl : Call} {l m d : Nat} {vs : Array Value} {R : Bool → World → Prop}
    (hop : o.op = .call cl) (hcal : cl.callee = .value x) (hg : o.guard = none) (hd : o.dst = some d) (hdn : d < n) (hq1 : l1.all noDefer = true) (hq2 : l2.all noDefer = true)
    (h1 : VCops ⟨P, w, []⟩ n (l1 ++ o :: l2).toArray l1 (fun T1 _ => ev T1 x = .func (.yield l) #[] #[] ∧ cl.args.map (ev T1) = vs ∧
      (∀ w1, Still P w w1 → YieldAt (FR none) m P l vs w1 fun e w2 => ∃ b, e = .returned (.bool b) ∧ R b w2) ∧
      ∀ b w2, R b w2 → VCops ⟨P, w2, []⟩ n (l1 ++ o :: l2).toArray l2 (fun T2 _ => ∀ w3, Still P w2 w3 → Q .normal T2 w3) (upd T1 d (.bool b)) []) T []) :
    GX P n (.region id (l1 ++ o :: l2).toArray false) Q T w := fun a hf => by
  refine (wpIn_wide (n := m + 1)).1 (show (Code.region id (l1 ++ o :: l2).toArray false).wpIn (FR none) (m + 1) P _ a w from wpIn_region_lit ?_)
  refine VCops_soundIn (Γ := ⟨P, w, []⟩) l1 _ T [] h1 hq1 a w hf (Still.refl P w) ?_
  rintro T1 L1 ⟨hx, hv, hY, hk⟩ a1 w1 hf1 hi1
  have hs1 : Still P w w1 := Inv.tail (A := L1) (by rw [List.append_nil]; exact hi1)
  obtain ⟨fn, tmps, assign, body, hrun, hround⟩ := hY w1 hs1
  have hw : Region.wanted o (yielded (l1 ++ o :: l2).toArray a1.tmps) = true := by unfold Region.wanted; rw [hg]
  simp only [wpListIn, hw, if_true]
  refine ⟨fun _ _ => trivial, ?_⟩
  rw [show (FR none).round = none from rfl, Oper.semAt_none, hf1.eval, run_yield hop hcal hx, hv, hrun]
  refine ⟨fun h => absurd h (by simp [FR, Fence.wide]), RoundIn.mono hround ?_⟩
  rintro e w2 ⟨b, rfl, hr⟩
  show wpListIn (FR none) (m + 1) P _ _ l2 (a1.put o.dst (.bool b)) w2
  rw [hd]
  have := VCops_soundIn (Γ := ⟨P, w2, []⟩) (ro := none) (m := m + 1) (l2 := []) (Q := fun e a' w' => ∃ T', Fits n T' a' ∧ Q e T' w') l2 _ _ [] (hk b w2 hr) hq2 _ w2 (hf1.put hdn _) (Still.refl P w2)
    (fun T2 L2 h2 a2 w3 hf2 hi2 => ⟨T2, hf2, h2 w3 (Inv.tail (A := L2) (by rw [List.append_nil]; exact hi2))⟩)
  rwa [List.append_nil] at this
theorem GX.enter {f : FuncId} {fn : Func} {c : Code} {args : List Value} {R : World → Prop} (hf : P.funcs[f]? = some fn) (hb : fn.body = some c) (hn : fn.ntmps = n) (hle : args.length ≤ n) (hres : fn.results = #[])
    (h : GX P n c (fun e _ w' => match e with | .normal => R w' | .ret => R w' | _ => False) (env0 args) w) : Calls P f args.toArray w fun e w' => (∃ v, e = .returned v) ∧ R w' := by
  refine calls_of_wp hf hb (Code.wp_mono ?_ (h _ ⟨?_, rfl, fun i => ?_⟩))
  · rintro e a' w' ⟨T', h1, h2⟩
    cases e with
    | normal => exact ⟨h1.2.1, _, results_none hres _ _ _, ⟨_, rfl⟩, h2⟩
    | ret => exact ⟨h1.2.1, _, results_none hres _ _ _, ⟨_, rfl⟩, h2⟩
    | _ => exact h2.elim
  · simp [hn]; omega
  · rw [env0_getD]
    simp only [Array.getD_eq_getD_getElem?, List.getD_eq_getElem?_getD]
    rw [Array.getElem?_append]
    split
    · simp
    · rename_i hge
      simp at hge
      rw [List.getElem?_eq_none hge]
      simp only [Array.getElem?_replicate]
      split <;> rfl
end
/-! Round by round: the slots' blocks are the round's own, all else lies as it lay. -/
theorem Inv.other {Γ : Ctx} {L : Hp} {W W' : World} {row : Option Nat} (h : Inv Γ L W) (hg : W.grownBy W' row) (hr : ∀ r, row = some r → Γ.w0.heap.size ≤ r ∧ ∀ o, some (r, o) ∉ L) : Inv Γ L W' :=
  ⟨h.inj, fun b o hm => (hg.block b (h.lt hm) (fun e => (hr b e.symm).2 o hm)).trans (h.blk b o hm), h.src, hg.os.trans h.os, hg.tape.trans h.tape, hg.output.trans h.output, Nat.le_trans h.size hg.size,
    fun b hb ho => (hg.block b (Nat.lt_of_lt_of_le hb h.size) (fun e => by have := (hr b e.symm).1; omega)).trans (h.old b hb ho)⟩
end Go.SX
set_option linter.unusedVariables false
set_option linter.unusedSimpArgs false
/-! The last step of a law that answers true and leaves its arguments as they were. -/
namespace Go.SX
open Go.ChangeShapes Go.WideShapes Go.ChangeAt Go.RowKit
section
variable {H : Type} {enc : TypeId × Value → H} {P : Program}

theorem SCall.below {f : FuncId} {args : Array Value} {W : World} {v : Value} (h : SCall ⟨P, W, []⟩ f args [] (fun v' L' => v' = v ∧ L' = [])) :
    Calls P f args W fun e W' => e = .returned v ∧ Below W.heap.size W W' := by
  have hi : Inv ⟨P, W, []⟩ [] W := ⟨fun i j b o o' h => by simp at h, fun b o h => by simp at h, fun b o h => by simp at h, rfl, rfl, rfl, Nat.le_refl _, fun _ _ _ => rfl⟩
  refine (h W hi).mono ?_
  rintro e w' ⟨v', L', he, hi', rfl, rfl⟩
  exact ⟨he, hi'.os, hi'.tape, hi'.output, hi'.size, fun k hk => hi'.old k hk (by simp)⟩

theorem trodAll_stays (hl : laidOutB P = true) {W W' : World} (hb : Below W.heap.size W W') {sp : Nat → Bool} : ∀ {ts : List TypeId} {vs : List Value} {ds : List (DataW H)} {ps : List MemPlace},
    (∀ t ∈ ts, P.readableRec t = true ∧ t < P.types.size) → DataW.TrodAll enc P W 0 (fun _ => true) true ts vs ds ps → (∀ x ∈ ps, x.block < W.heap.size) → (∀ x ∈ ps, sp x.block = true) → DataW.TrodAll enc P W' 0 sp true ts vs ds ps
  | [], vs, ds, ps, _, h, _, _ => by
    obtain ⟨rfl, rfl, rfl⟩ := trodAll_nil h
    exact trodAll_mk0
  | t :: ts, vs, ds, ps, hr, h, hlt, hsp => by
    cases vs with
    | nil => cases ds <;> exact h.elim
    | cons v vs =>
      cases ds with
      | nil => exact h.elim
      | cons d ds =>
        obtain ⟨p, q, h1, h2, rfl⟩ := h
        have hrt := hr t (List.mem_cons_self ..)
        exact ⟨p, q, WideElems.Trod_stays hl hrt.1 hrt.2 h1 (fun x hx => hb.same (hlt x (List.mem_append_left _ hx))) (fun x hx => hsp x (List.mem_append_left _ hx)),
          trodAll_stays hl hb (fun t ht => hr t (List.mem_cons_of_mem _ ht)) h2 (fun x hx => hlt x (List.mem_append_right _ hx)) (fun x hx => hsp x (List.mem_append_right _ hx)), rfl⟩

theorem law_contract {C : Checked} {f : FuncId} {fn : Func} {s : ChangeSpec} {apart : Bool} {tb : TypeId} (hv : s.vars = []) (hlaid : laidOutB C.prog = true) (hread : fn.params.toList.all (fun t => C.prog.readableRec t && decide (t < C.prog.types.size)) = true)
    (hres : fn.resultTypes = #[tb]) (htb : C.prog.underlying tb = some .bool)
    (hspec : ∀ ds : List (DataW H), ds.length = fn.params.toList.length → s.fn H ds = { results := [.lit (.bool true)], args := ds, vars := [] })
    {W : World} {args : Array Value} {ds gs : List (DataW H)} {before : List MemPlace} (hW : DataW.Whole enc C.prog fn.params.toList s.vars apart W args.toList ds gs before)
    (hcall : ∀ p, DataW.TrodAll enc C.prog W 0 (fun _ => true) true fn.params.toList args.toList ds p → Calls C.prog f args W fun e W' => e = .returned (.bool true) ∧ Below W.heap.size W W') :
    Calls C.prog f args W fun e W' => ∃ v, e = .returned v ∧ s.post enc C.prog fn apart true false false W args v W' := by
  have hW' := hW
  obtain ⟨p, q, hA, hV, rfl, hfz, hnd⟩ := hW
  rw [hv] at hV
  obtain ⟨rfl, rfl⟩ := trodVars_none hV
  simp only [List.append_nil] at hW' hfz hnd
  have hlen : ds.length = fn.params.toList.length := (trodAll_length hA).2
  have hlt : ∀ x ∈ p, x.block < W.heap.size := fun x hx => hW'.lt x hx
  have hread' : ∀ t ∈ fn.params.toList, C.prog.readableRec t = true ∧ t < C.prog.types.size := fun t ht => by
    have := List.all_eq_true.1 hread t ht
    simpa using this
  refine (hcall p hA).mono fun e W' ⟨he, hb⟩ => ?_
  subst he
  have e1 : s.fn H (ds ++ []) = { results := [.lit (.bool true)], args := ds, vars := [] } := by rw [List.append_nil, hspec ds hlen]
  have hok : ∀ (j : Nat) (t : TypeId) (r : Value), fn.resultTypes[j]? = some t → ((Value.bool true).resultList fn.resultTypes.size)[j]? = some r → Value.okWide C.prog W' .any 0 t r := ok_one hres rfl (okWide_bool_mk htb _)
  have hr0 : ∀ (b : Nat) (sp : Nat → Bool) (hd : Bool), DataW.TrodAll enc C.prog W' b sp hd fn.resultTypes.toList ((Value.bool true).resultList fn.resultTypes.size) (s.fn H (ds ++ [])).results [] := fun b sp hd => by
    rw [e1, hres]
    exact trodAll_cons_mk (shut_bool htb _) trodAll_mk0
  have ha0 : ∀ sp : Nat → Bool, (∀ x ∈ p, sp x.block = true) → DataW.TrodAll enc C.prog W' 0 sp true fn.params.toList args.toList (s.fn H (ds ++ [])).args p := fun sp hsp => by
    rw [e1]
    exact trodAll_stays hlaid hb hread' hA hlt hsp
  have hold : ∀ x ∈ p, (fun b => decide (b < W.heap.size)) x.block = true := fun x hx => by simpa using hlt x hx
  have hv0 : ∀ sp : Nat → Bool, DataW.TrodVars enc C.prog W' sp s.vars (s.fn H (ds ++ [])).vars [] := fun sp => by rw [hv, e1]; rfl
  refine ⟨_, rfl, ds, [], p, [], p, [], by simpa using hW', hr0 _ _ _, ha0 _ hold, hv0 _, World.keptBut_mono (fun x hx => ⟨hx, ?_⟩) (hb.frame (· ∈ p)), fun _ => ?_⟩
  · simpa using hx
  · obtain ⟨_, _, _, _, _, hz, hn⟩ := hW'
    refine ⟨hok, _, _, ([] ++ p) ++ [], ⟨[] ++ p, [], trodAll_append (ha0 _ (fun _ _ => rfl)) (hr0 _ _ _), hv0 _, rfl, ?_, ?_⟩, ?_⟩
    · intro b off hp
      have hin : MemPlace.cell b off ∈ p := by simpa using hp
      rw [hb.frozen (hlt _ hin)]
      exact hz b off hin
    · intro ha
      have := hn ha
      simpa using this
    · intro x hx _
      simpa using hx

end
end Go.SX
set_option linter.unusedVariables false
set_option linter.unusedSimpArgs false
/-! '==' of structs and arrays of whole numbers, bools and strings, to whatever depth. -/
namespace Go.SX
open Go.RowKit
inductive FK where
  | b | i (k : IntKind) | s
  deriving DecidableEq
def okV : FK → Value → Bool
  | .b, .bool _ => true
  | .i k, .int k' n => decide (k' = k) && (Lit.int k n).wf
  | .s, .string s => decide (s.size ≤ maxLen)
  | _, _ => false
def litV : Value → Lit
  | .bool b => .bool b
  | .int k n => .int k n
  | .string s => .string s.data.toList
  | _ => .nil
def okVs : List FK → List Value → Bool
  | [], [] => true
  | k :: ks, v :: vs => okV k v && okVs ks vs
  | _, _ => false
theorem okVs_len : ∀ {ks : List FK} {vs : List Value}, okVs ks vs = true → vs.length = ks.length
  | [], [], _ => rfl
  | k :: ks, v :: vs, h => by
    simp only [okVs, Bool.and_eq_true] at h
    simp [okVs_len h.2]
theorem okVs_app : ∀ {ks ls : List FK} {vs : List Value}, okVs (ks ++ ls) vs = true → okVs ks (vs.take ks.length) = true ∧ okVs ls (vs.drop ks.length) = true
  | [], ls, vs, h => by simpa [okVs] using h
  | k :: ks, ls, v :: vs, h => by
    simp only [List.cons_append, okVs, Bool.and_eq_true] at h
    obtain ⟨h1, h2⟩ := okVs_app h.2
    simp [okVs, h.1, h1, h2]
def fieldsK {F : Type} (nm : F → Bool) (ty off : F → Nat) (g : Nat → Option (List FK)) (co : Nat → Nat) : List F → Nat → Option (List FK)
  | [], _ => some []
  | f :: fs, o => if nm f && off f == o then match g (ty f) with
      | some ks => if ks.length = co (ty f) then (fieldsK nm ty off g co fs (o + ks.length)).map (ks ++ ·) else none
      | none => none
    else none
def flatK (P : Program) : Nat → TypeId → Option (List FK)
  | 0, _ => none
  | d + 1, t => match P.underlying t with
    | some .bool => some [.b]
    | some (.int q) => some [.i q]
    | some .string => some [.s]
    | some (.array n e) => match flatK P d e with
      | some ks => if ks.length = P.cellsOf e ∧ P.cellsOf t = n * ks.length then some (List.replicate n ks).flatten else none
      | none => none
    | some (.struct fs) => match fieldsK (fun f => f.name != "_") (·.type) (·.offset) (flatK P d) P.cellsOf fs.toList 0 with
      | some ks => if ks.length = P.cellsOf t then some ks else none
      | none => none
    | _ => none
theorem fieldsK_all {F : Type} {nm : F → Bool} {ty off : F → Nat} {g : Nat → Option (List FK)} {co : Nat → Nat} : ∀ {fs : List F} {o : Nat} {ks : List FK}, fieldsK nm ty off g co fs o = some ks → fs.all nm = true
  | [], _, _, _ => rfl
  | f :: fs, o, ks, h => by
    simp only [fieldsK] at h
    split at h <;> try (cases h; done)
    rename_i hn
    split at h <;> try (cases h; done)
    split at h <;> try (cases h; done)
    obtain ⟨l, hl, _⟩ := Option.map_eq_some_iff.1 h
    simp only [Bool.and_eq_true] at hn
    simp [hn.1, fieldsK_all hl]
theorem fieldsK_lits {F : Type} {nm : F → Bool} {ty off : F → Nat} {g : Nat → Option (List FK)} {co : Nat → Nat} {kl : Nat → List Value → Option (List Lit)} (hg : ∀ t ks vs, g t = some ks → okVs ks vs = true → kl t vs = some (vs.map litV)) {cs : List Value} :
    ∀ {fs : List F} {o : Nat} {ks : List FK}, fieldsK nm ty off g co fs o = some ks → okVs ks (cs.drop o) = true →
      ∃ ls, fs.mapM (fun f => kl (ty f) ((cs.drop (off f)).take (co (ty f)))) = some ls ∧ ls.flatten = (cs.drop o).map litV
  | [], o, ks, h, hk => by
    simp only [fieldsK, Option.some.injEq] at h
    subst h
    refine ⟨[], rfl, ?_⟩
    have := okVs_len hk
    rw [List.eq_nil_of_length_eq_zero this]
    rfl
  | f :: fs, o, ks, h, hk => by
    simp only [fieldsK] at h
    split at h <;> try (cases h; done)
    rename_i hn
    simp only [Bool.and_eq_true, beq_iff_eq] at hn
    split at h <;> try (cases h; done)
    rename_i k1 hg1
    split at h <;> try (cases h; done)
    rename_i hlen
    obtain ⟨l, hl, rfl⟩ := Option.map_eq_some_iff.1 h
    obtain ⟨h1, h2⟩ := okVs_app hk
    rw [List.drop_drop] at h2
    obtain ⟨ls, hm, hf⟩ := fieldsK_lits hg hl h2
    refine ⟨((cs.drop o).take k1.length).map litV :: ls, ?_, ?_⟩
    · rw [List.mapM_cons, hn.2, ← hlen, hg _ _ _ hg1 h1, hm]
      rfl
    · rw [List.flatten_cons, hf, ← List.map_append, ← List.drop_drop, List.take_append_drop]
theorem flat_rep {ks : List FK} : ∀ {n : Nat} {vs : List Value}, okVs (List.replicate n ks).flatten vs = true → vs.length = n * ks.length ∧ ∀ i, i < n → okVs ks ((vs.drop (i * ks.length)).take ks.length) = true
  | 0, vs, h => by
    have := okVs_len h
    exact ⟨by simpa using this, fun i hi => absurd hi (by omega)⟩
  | n + 1, vs, h => by
    rw [List.replicate_succ, List.flatten_cons] at h
    obtain ⟨h1, h2⟩ := okVs_app h
    obtain ⟨h3, h4⟩ := flat_rep h2
    have h5 := okVs_len h1
    refine ⟨?_, fun i hi => ?_⟩
    · rw [List.length_drop] at h3
      rw [List.length_take] at h5
      have := Nat.add_one_mul n ks.length
      omega
    · cases i with
      | zero => simpa using h1
      | succ i =>
        have := h4 i (by omega)
        rw [List.drop_drop] at this
        rwa [Nat.succ_mul, Nat.add_comm]
theorem flatten_parts {m : Nat} : ∀ (n : Nat) (vs : List Value), vs.length = n * m → ((List.range n).map fun i => ((vs.drop (i * m)).take m).map litV).flatten = vs.map litV
  | 0, vs, h => by
    have : vs = [] := List.eq_nil_of_length_eq_zero (by simpa using h)
    subst this; rfl
  | n + 1, vs, h => by
    have hs := Nat.add_one_mul n m
    rw [List.range_succ_eq_map, List.map_cons, List.map_map, List.flatten_cons]
    have ih := flatten_parts (m := m) n (vs.drop m) (by rw [List.length_drop]; omega)
    have : ((fun i => ((vs.drop (i * m)).take m).map litV) ∘ Nat.succ) = fun i => (((vs.drop m).drop (i * m)).take m).map litV := by
      funext i
      simp only [Function.comp, List.drop_drop, Nat.succ_mul, Nat.add_comm]
    rw [this, ih, Nat.zero_mul, List.drop_zero, ← List.map_append, List.take_append_drop]
theorem keyLits_flat {P : Program} : ∀ (d : Nat) (t : TypeId) (ks : List FK) (vs : List Value), flatK P d t = some ks → okVs ks vs = true → P.keyLits d t vs = some (vs.map litV)
  | 0, _, _, _, h, _ => by cases h
  | d + 1, t, ks, vs, h, hv => by
    have ih := keyLits_flat (P := P) d
    unfold flatK at h
    unfold Program.keyLits
    split at h
    · rename_i hu
      cases h
      rw [hu]
      match vs, hv with
      | [.bool b], _ => rfl
    · rename_i q hu
      cases h
      rw [hu]
      match vs, hv with
      | [.int q' n], hv =>
        simp only [okVs, okV, Bool.and_true, Bool.and_eq_true, decide_eq_true_eq] at hv
        obtain ⟨rfl, hw⟩ := hv
        simp [hw, litV]
      | .int _ _ :: _ :: _, hv => simp [okVs] at hv
    · rename_i hu
      cases h
      rw [hu]
      match vs, hv with
      | [.string s], hv =>
        simp only [okVs, okV, Bool.and_true, decide_eq_true_eq] at hv
        simp [hv, litV]
      | .string _ :: _ :: _, hv => simp [okVs] at hv
    · rename_i n e hu
      split at h <;> try (cases h; done)
      rename_i k1 hk1
      split at h <;> try (cases h; done)
      rename_i hc
      cases h
      obtain ⟨h1, h2⟩ := flat_rep hv
      rw [hu]
      simp only [hc.2, h1, if_true]
      rw [mapM_range (g := (List.range n).map fun i => ((vs.drop (i * k1.length)).take k1.length).map litV) (by simp) (fun i hi => by
        rw [← hc.1, ih _ _ _ hk1 (h2 i hi), List.getElem?_map, List.getElem?_range hi]; rfl)]
      rw [Option.map_some, flatten_parts n vs h1]
    · rename_i fs hu
      split at h <;> try (cases h; done)
      rename_i k1 hk1
      split at h <;> try (cases h; done)
      rename_i hc
      cases h
      rw [hu]
      have hall := fieldsK_all hk1
      obtain ⟨ls, hm, hf⟩ := fieldsK_lits (kl := P.keyLits d) (cs := vs) (fun t ks vs h1 h2 => ih t ks vs h1 h2) hk1 (by simpa using hv)
      have hl := okVs_len hv
      have hall' : fs.all (fun f => f.name != "_") = true := by rw [← Array.all_toList]; exact hall
      simp only [hl, hc, hall', and_self, if_true]
      rw [hm, Option.map_some, hf]
      rfl
    · cases h

/-- A type of which '==' compares such. -/
structure EqT (P : Program) (t : TypeId) (ks : List FK) : Prop where
  key : P.keyTypeAt 9 t = true
  grd : P.eqGuardType P.depth t = false
  flat : flatK P 9 t = some ks
  shape : (match P.underlying t with | some (.struct _) | some (.array _ _) => true | _ => false) = true
  size : P.cellsOf t = ks.length
theorem aggEq_of {P : Program} {t : TypeId} {ks : List FK} {a b : Array Value} {K : Bool → Prop} (h : EqT P t ks) (ha : okVs ks a.toList = true) (hb : okVs ks b.toList = true)
    (hK : ∀ r : Bool, (r = true ↔ a.toList.map litV = b.toList.map litV) → K r) : aggEq P t a b K := by
  have fm : ∀ c : Array Value, okVs ks c.toList = true → (Value.agg c).formed P t = true := fun c hc => by
    have hs := h.shape
    have := okVs_len hc
    unfold Value.formed
    split at hs <;> try (cases hs; done)
    all_goals
      rename_i hu
      simp only [hu]
      rw [h.size, ← this]
      simp
  exact ⟨h.key, h.grd, fm a ha, fm b hb, _, _, keyLits_flat 9 t ks _ h.flat ha, keyLits_flat 9 t ks _ h.flat hb, hK⟩
end Go.SX
set_option linter.unusedVariables false
set_option linter.unusedSimpArgs false
/-! Tables that lie in the program's variables. -/
namespace Go.SX
open Go.ChangeShapes Go.WideShapes Go.ChangeAt Go.RowKit
section
variable {H : Type} {enc : TypeId × Value → H} {P : Program} {w : World} {base : Nat} {spare : Nat → Bool} {held : Bool} {fuel : Nat} {cs : List Value} {x : DataW H × List MemPlace}
def litsD {H : Type} (k : IntKind) (zs : List Int) : List (DataW H) := zs.map fun z => .lit (.int k z)
theorem trod_arr_ints {t e n : TypeId} {k : IntKind} {zs : List Int} (hu : P.underlying t = some (.array n e)) (he : P.underlying e = some (.int k)) (hc : P.cellsOf e = 1) (ht : P.cellsOf t = n)
    (h : DataW.trod enc P w base spare held fuel t cs = some x) (hx : x.1 = .agg (litsD k zs)) : cs = ints k zs := by
  obtain ⟨xs, m, rfl, rfl, hlen, hn, hel⟩ := DataW.trod_array hu h
  simp only [DataW.agg.injEq] at hx
  have hzl : zs.length = n := by
    have := congrArg List.length hx
    simp [litsD] at this
    omega
  refine List.ext_getElem? fun i => ?_
  by_cases hi : i < n
  · have h1 := hel i hi
    rw [hc, Nat.mul_one] at h1
    have hxi : xs[i]? = some (xs[i]'(by omega)) := List.getElem?_eq_getElem (by omega)
    rw [hxi] at h1
    obtain ⟨z, e1, e2, _⟩ := DataW.trod_int he h1
    have h2 := congrArg (fun l => l[i]?) hx
    simp only [List.getElem?_map, hxi, litsD, Option.map_some, e2] at h2
    have hzi : zs[i]? = some (zs[i]'(by omega)) := List.getElem?_eq_getElem (by omega)
    rw [hzi] at h2
    simp only [Option.map_some, Option.some.injEq, DataW.lit.injEq, Lit.int.injEq, true_and] at h2
    have h3 : cs[i]? = some (.int k z) := by
      have := congrArg List.head? e1
      rw [List.head?_take, if_neg (by omega), List.head?_drop] at this
      exact this
    rw [h3, ints_at, hzi, h2]
    rfl
  · rw [List.getElem?_eq_none (by omega), List.getElem?_eq_none (by rw [ints_length]; omega)]
theorem trod_arr_arr {t e u n m : TypeId} {k : IntKind} {zss : List (List Int)} (hu : P.underlying t = some (.array n e)) (he : P.underlying e = some (.array m u)) (hi : P.underlying u = some (.int k)) (hc : P.cellsOf u = 1) (hce : P.cellsOf e = m) (hct : P.cellsOf t = n * m)
    (hz : ∀ zs ∈ zss, zs.length = m)
    (h : DataW.trod enc P w base spare held fuel t cs = some x) (hx : x.1 = .agg (zss.map fun zs => .agg (litsD k zs))) : ∀ (i j : Nat) (zs : List Int) (z : Int), zss[i]? = some zs → zs[j]? = some z → cs[i * m + j]? = some (.int k z) := by
  obtain ⟨xs, f, rfl, rfl, hlen, hn, hel⟩ := DataW.trod_array hu h
  simp only [DataW.agg.injEq] at hx
  intro i j zs z hzi hzj
  have hil : i < zss.length := (List.getElem?_eq_some_iff.1 hzi).1
  have hl2 : zss.length = n := by
    have := congrArg List.length hx
    simp at this
    omega
  have h1 := hel i (by omega)
  rw [hce] at h1
  have hxi : xs[i]? = some (xs[i]'(by omega)) := List.getElem?_eq_getElem (by omega)
  rw [hxi] at h1
  have h2 := congrArg (fun l => l[i]?) hx
  simp only [List.getElem?_map, hxi, hzi, Option.map_some, Option.some.injEq] at h2
  have h3 := trod_arr_ints he hi hc hce h1 h2
  have hjm : j < m := by
    have := (List.getElem?_eq_some_iff.1 hzj).1
    rw [hz zs (List.mem_of_getElem? hzi)] at this
    exact this
  have h4 := congrArg (fun l => l[j]?) h3
  simp only [ints_at, hzj, Option.map_some, List.getElem?_take, if_pos hjm, List.getElem?_drop] at h4
  exact h4
end

theorem law_lifted_laid {H : Type} {enc : TypeId × Value → H} {C : Checked} {a : Assume} {os : Os} {f : FuncId} {fn : Func} {s : ChangeSpec} {conds : List PathCond} {apart : Bool} {tb : TypeId} {laid : List (String × DataW Unit)}
    (own : ownKnob C.prog.godebug = none) (started : os.Started) (noInit : C.prog.inits.idxOf? f = none) (hfn : C.prog.funcs[f]? = some fn)
    (witness : ∃ (w : World) (tape : Tape) (i : Input), w.os = os ∧ (w.forCall tape i).Shaped C.prog ∧ i.vars = [] ∧ Input.okWide C.prog (w.forCall tape i) .any w.heap.size f i ∧
      ((s.pre enc C.prog fn conds apart (w.forCall tape i).memory i.args ∧ laidMetH C.prog laid (w.forCall tape i).memory) ∧ sizedMet enc C.prog fn (OpenSpec.ofChange s) apart (w.forCall tape i).memory i.args) ∧ a.holds C.prog (lone (Frame.enter C.prog f i.args .normal) [] (w.forCall tape i)))
    (hv : s.vars = []) (hlaid : laidOutB C.prog = true) (hread : fn.params.toList.all (fun t => C.prog.readableRec t && decide (t < C.prog.types.size)) = true)
    (hres : fn.resultTypes = #[tb]) (htb : C.prog.underlying tb = some .bool)
    (hspec : ∀ ds : List (DataW H), ds.length = fn.params.toList.length → s.fn H ds = { results := [.lit (.bool true)], args := ds, vars := [] })
    (hwalk : ∀ (W : World) (base : Nat) (args : Array Value) (ds : List (DataW H)) (p : List MemPlace), (∀ (j : Nat) t v, fn.params[j]? = some t → args[j]? = some v → Value.okWide C.prog W .any base t v) → laidMetH C.prog laid W →
      DataW.TrodAll enc C.prog W 0 (fun _ => true) true fn.params.toList args.toList ds p → Calls C.prog f args W fun e W' => e = .returned (.bool true) ∧ Below W.heap.size W W') :
    ReturnsInHanded a C os f .any (fun w args => (s.pre enc C.prog fn conds apart w args ∧ laidMetH C.prog laid w) ∧ sizedMet enc C.prog fn (OpenSpec.ofChange s) apart w args) (s.post enc C.prog fn apart true false false) := by
  refine returnsInHanded_of_change_and (X := fun w _ => laidMetH C.prog laid w) (fun _ _ _ hh h => h.of_heap hh) own started noInit hfn witness ?_
  intro W base args ds gs before hval hW _ _ hL _
  exact law_contract hv hlaid hread hres htb hspec hW fun p hA => hwalk W base args ds p hval hL hA
end Go.SX
set_option linter.unusedVariables false
set_option linter.unusedSimpArgs false
/-! What is handed in, of types of whole numbers, bools and strings (structs and arrays of such, slices of these). -/
namespace Go.SX
open Go.ChangeShapes Go.WideShapes Go.ChangeAt Go.RowKit
section
variable {H : Type} {enc : TypeId × Value → H} {P : Program}
theorem okVs_mk : ∀ {ks ls : List FK} {vs : List Value}, okVs ks (vs.take ks.length) = true → okVs ls (vs.drop ks.length) = true → okVs (ks ++ ls) vs = true
  | [], ls, vs, _, h => by simpa using h
  | k :: ks, ls, [], h, _ => by simp [okVs] at h
  | k :: ks, ls, v :: vs, h, h2 => by
    simp only [List.length_cons, List.take_succ_cons, okVs, Bool.and_eq_true, List.drop_succ_cons] at h h2
    simp [okVs, h.1, okVs_mk h.2 h2]
theorem flat_rep_mk {ks : List FK} : ∀ {n : Nat} {vs : List Value}, vs.length = n * ks.length → (∀ i, i < n → okVs ks ((vs.drop (i * ks.length)).take ks.length) = true) → okVs (List.replicate n ks).flatten vs = true
  | 0, vs, h, _ => by
    have : vs = [] := List.eq_nil_of_length_eq_zero (by simpa using h)
    subst this; rfl
  | n + 1, vs, h, hp => by
    have hs := Nat.add_one_mul n ks.length
    rw [List.replicate_succ, List.flatten_cons]
    refine okVs_mk (by simpa using hp 0 (by omega)) (flat_rep_mk (by rw [List.length_drop]; omega) fun i hi => ?_)
    have := hp (i + 1) (by omega)
    rw [List.drop_drop]
    rwa [Nat.add_one_mul, Nat.add_comm] at this
theorem fieldsK_mk {F : Type} {nm : F → Bool} {ty off : F → Nat} {g : Nat → Option (List FK)} {co : Nat → Nat} {cs : List Value} :
    ∀ {fs : List F} {o : Nat} {ks : List FK}, fieldsK nm ty off g co fs o = some ks → cs.length = o + ks.length →
      (∀ f ∈ fs, ∀ k1, g (ty f) = some k1 → okVs k1 ((cs.drop (off f)).take (co (ty f))) = true) → okVs ks (cs.drop o) = true
  | [], o, ks, h, hl, _ => by
    simp only [fieldsK, Option.some.injEq] at h
    subst h
    have : cs.drop o = [] := List.drop_of_length_le (by simp at hl; omega)
    rw [this]; rfl
  | f :: fs, o, ks, h, hl, hp => by
    simp only [fieldsK] at h
    split at h <;> try (cases h; done)
    rename_i hn
    simp only [Bool.and_eq_true, beq_iff_eq] at hn
    split at h <;> try (cases h; done)
    rename_i k1 hg1
    split at h <;> try (cases h; done)
    rename_i hlen
    obtain ⟨l, hll, rfl⟩ := Option.map_eq_some_iff.1 h
    have h1 := hp f (List.mem_cons_self ..) k1 hg1
    rw [← hlen, hn.2] at h1
    refine okVs_mk h1 ?_
    rw [List.drop_drop]
    exact fieldsK_mk hll (by rw [List.length_append] at hl; omega) fun f' hf' => hp f' (List.mem_cons_of_mem _ hf')
theorem trod_flat {w : World} {base : Nat} {spare : Nat → Bool} {held : Bool} : ∀ (d : Nat) (t : TypeId) (ks : List FK) (fuel : Nat) (cs : List Value) (x : DataW H × List MemPlace), flatK P d t = some ks →
    DataW.trod enc P w base spare held fuel t cs = some x → okVs ks cs = true
  | 0, _, _, _, _, _, h, _ => by cases h
  | d + 1, t, ks, fuel, cs, x, h, ht => by
    unfold flatK at h
    split at h
    · rename_i hu
      cases h
      obtain ⟨b, rfl, _⟩ := DataW.trod_bool hu ht
      rfl
    · rename_i q hu
      cases h
      obtain ⟨n, rfl, _, hw⟩ := DataW.trod_int hu ht
      simp [okVs, okV, hw]
    · rename_i hu
      cases h
      obtain ⟨s, rfl, _, hs⟩ := DataW.trod_string hu ht
      simp [okVs, okV, hs]
    · rename_i n e hu
      split at h <;> try (cases h; done)
      rename_i k1 hk1
      split at h <;> try (cases h; done)
      rename_i hc
      cases h
      obtain ⟨xs, m, _, _, hl, hxl, hp⟩ := DataW.trod_array hu ht
      refine flat_rep_mk (by rw [hl, hc.2]) fun i hi => ?_
      have h1 := hp i hi
      rw [List.getElem?_eq_getElem (by omega)] at h1
      have := trod_flat d e k1 _ _ _ hk1 h1
      rwa [← hc.1] at this
    · rename_i fs hu
      split at h <;> try (cases h; done)
      rename_i k1 hk1
      split at h <;> try (cases h; done)
      rename_i hc
      cases h
      obtain ⟨xs, m, _, _, hl, hxl, hp⟩ := DataW.trod_struct hu ht
      have := fieldsK_mk (cs := cs) hk1 (by rw [hl, hc]; omega) fun f hf k2 hk2 => by
        obtain ⟨i, hi⟩ := List.mem_iff_getElem?.1 hf
        have hi' : fs[i]? = some f := by rw [← Array.getElem?_toList]; exact hi
        have h1 := hp i f hi'
        have hil : i < xs.length := by have := (Array.getElem?_eq_some_iff.1 hi').1; omega
        rw [List.getElem?_eq_getElem hil] at h1
        exact trod_flat d _ k2 _ _ _ hk2 h1
      simpa using this
    · cases h
theorem okVs_i {k : IntKind} {ks : List FK} {vs : List Value} (h : okVs (.i k :: ks) vs = true) : ∃ n vs', vs = .int k n :: vs' ∧ (Lit.int k n).wf = true ∧ okVs ks vs' = true := by
  match vs, h with
  | .int k' n :: vs', h =>
    simp only [okVs, okV, Bool.and_eq_true, decide_eq_true_eq] at h
    obtain ⟨⟨rfl, h1⟩, h2⟩ := h
    exact ⟨n, vs', rfl, h1, h2⟩
theorem okVs_b {ks : List FK} {vs : List Value} (h : okVs (.b :: ks) vs = true) : ∃ b vs', vs = .bool b :: vs' ∧ okVs ks vs' = true := by
  match vs, h with
  | .bool b :: vs', h => exact ⟨b, vs', rfl, by simpa [okVs, okV] using h⟩
theorem okVs_nil {vs : List Value} (h : okVs [] vs = true) : vs = [] := by
  match vs, h with
  | [], _ => rfl
/-- A struct or array that is handed in. -/
theorem open_flat {t : TypeId} {ks : List FK} {W : World} {v : Value} {d : DataW H} {p : List MemPlace} (hk : flatK P 9 t = some ks) (h : DataW.Trod enc P W 0 (fun _ => true) true t v d p) : okVs ks v.cells.toList = true := by
  obtain ⟨fuel, hf⟩ := h
  exact trod_flat 9 t ks _ _ _ hk hf
/-- What lies in one element: its cells. -/
def RS {α : Type} (f : α → List Value) : (Addr → Value → Prop) → Addr → α → Prop := fun C a x => ∀ i u, (f x)[i]? = some u → C (a.add i) u
abbrev SlS {α : Type} (sz : Nat) (f : α → List Value) := Sl sz (RS f)
theorem cells_at {w : World} {base : Nat} {a : Addr} {n : Nat} {cs : List Value} (h : w.cells? base a n = some cs) : cs.length = n ∧ ∀ i u, cs[i]? = some u → w.cell? (a.add i) = some u := by
  unfold World.cells? at h
  split at h
  · have hl := mapM_some_length h
    rw [List.length_range] at hl
    refine ⟨hl, fun i u hi => ?_⟩
    have hin : i < n := by have := (List.getElem?_eq_some_iff.1 hi).1; omega
    have := mapM_some_get h i i (by rw [List.getElem?_range hin])
    rw [hi] at this
    exact this
  · cases h
end
end Go.SX
namespace Go.SX
open Go.ChangeShapes Go.WideShapes Go.ChangeAt Go.RowKit
theorem laid_vars {P : Program} {W : World} : ∀ {laid : List (String × DataW Unit)} {ps : List MemPlace} {n : String} {d : DataW Unit}, DataW.LaidVars P W laid ps → (n, d) ∈ laid → ∃ (g : Nat) (t : TypeId) (cs : Array Value) (f : Nat) (p : List MemPlace),
    P.globalNamed n = some g ∧ (P.globals[g]?).map (·.type) = some t ∧ W.var? P n = some cs ∧ DataW.trod (fun _ => ()) P W 0 (fun _ => true) false f t cs.toList = some (d, p)
  | [], _, _, _, _, h => by cases h
  | (m, e) :: r, ps, n, d, hl, h => by
    obtain ⟨g, t, cs, f, p, q, h1, h2, h3, h4, h5, _⟩ := hl
    rcases List.mem_cons.1 h with h | h
    · cases h; exact ⟨g, t, cs, f, p, h1, h2, h3, h4⟩
    · exact laid_vars h5 h
theorem laid_var {P : Program} {W : World} {laid : List (String × DataW Unit)} {n : String} {d : DataW Unit} {g : Nat} {t : TypeId} (hp : (laid.all fun x => x.2.handleName?.isNone) = true) (hL : laidMetH P laid W) (hm : (n, d) ∈ laid)
    (hg : P.globalNamed n = some g) (ht : (P.globals[g]?).map (·.type) = some t) : ∃ (cs : List Value) (f : Nat) (p : List MemPlace), DataW.trod (fun _ => ()) P W 0 (fun _ => true) false f t cs = some (d, p) ∧ ∀ j, W.cell? ⟨g, j, none⟩ = cs[j]? := by
  rw [MakeChecks.laidMetH_plain _ _ _ hp] at hL
  obtain ⟨ps, h, _⟩ := hL
  obtain ⟨g', t', cs, f, p, h1, h2, h3, h4⟩ := laid_vars h hm
  obtain rfl := Option.some.inj (hg.symm.trans h1)
  obtain rfl := Option.some.inj (ht.symm.trans h2)
  exact ⟨cs.toList, f, p, h4, fun j => by rw [World.var?_cell h1 h3 j, Array.getElem?_toList]⟩
end Go.SX
set_option linter.unusedVariables false
set_option linter.unusedSimpArgs false
/-! Rows of structs: a slice of one's own whose elements are lists of cells. -/
namespace Go.SX
open Go.RowKit
section
variable {Γ : Ctx} {L : Hp} {α : Type} {f : α → List Value} {e sz : Nat}
theorem flat_len (hf : ∀ x, (f x).length = sz) : ∀ l : List α, (l.flatMap f).length = l.length * sz
  | [] => by simp
  | x :: l => by rw [List.flatMap_cons, List.length_append, hf, flat_len hf l, List.length_cons, Nat.add_one_mul]; omega
theorem flat_at (hf : ∀ x, (f x).length = sz) : ∀ {l : List α} {j k : Nat} {x : α}, l[j]? = some x → k < sz → (l.flatMap f)[j * sz + k]? = (f x)[k]?
  | [], j, k, x, h, _ => by simp at h
  | y :: l, 0, k, x, h, hk => by
    simp at h; subst h
    rw [List.flatMap_cons, Nat.zero_mul, Nat.zero_add, List.getElem?_append_left (by rw [hf]; exact hk)]
  | y :: l, j + 1, k, x, h, hk => by
    rw [List.flatMap_cons, List.getElem?_append_right (by rw [hf, Nat.add_one_mul]; omega), hf, Nat.add_one_mul, show j * sz + sz + k - sz = j * sz + k by omega]
    exact flat_at hf (by simpa using h) hk
abbrev RowL (f : α → List Value) (e sz : Nat) (v : Value) (l : List α) (s : Slot) : Prop := Row e sz v l.length (l.flatMap f) s
theorem RowL.nil (f : α → List Value) (e sz : Nat) : RowL f e sz (.slice none 0 0) [] none := Row.nil e sz
theorem RowL.sl {v : Value} {l : List α} {s : Slot} {i : Nat} (hf : ∀ x, (f x).length = sz) (h : RowL f e sz v l s) (hL : L[i]? = some s) : SlS sz f (Cell Γ L) v l :=
  Row.sl h hL rfl fun C j x a hj hk => fun k u hu => by
    have hks : k < sz := by rw [← hf x]; exact (List.getElem?_eq_some_iff.1 hu).1
    exact hk k hks u (by rw [flat_at hf hj hks]; exact hu)
/-- append(v, x). -/
theorem YAppend.rowL {ty by_ i b : Nat} {z : List Value} {v : Value} {l : List α} {x : α} {s : Slot} {fr : Nat × Nat} {K : Value → Hp → Prop}
    (hel : elS Γ.P ty = some (e, sz, by_)) (hz : zr Γ.P e = some z) (hzl : z.length = sz) (hf : (f x).length = sz) (h1 : oneB (f x) = true) (hL : L[i]? = some s) (hr : RowL f e sz v l s)
    (hb : (l.length + 1) * by_ ≤ 140737488355328) (hb0 : 0 < by_) (hK : ∀ v' s', RowL f e sz v' (l ++ [x]) s' → K v' (some (b, .cells (f x).toArray e fr) :: L.set i s')) :
    YAppend Γ ty ty v (.slice (some ⟨b, 0, none⟩) 1 1) (some (b, .cells (f x).toArray e fr) :: L) K := by
  refine YAppend.row (i := i + 1) (ys := f x) (m := 1) hel hz hzl (by simpa using hL) hr (SrcV.lit (ys := f x) (by rw [hel]; rfl) (by rw [hf]; omega) h1) (by rw [hf]; omega) hb hb0 fun v' s' hr' => ?_
  have := hK v' s' (by
    show Row e sz v' (l ++ [x]).length ((l ++ [x]).flatMap f) s'
    rw [List.flatMap_append, List.length_append]
    simpa using hr')
  simpa using this
theorem RowL.form {v : Value} {l : List α} {s : Slot} (h : RowL f e sz v l s) (hl : 0 < l.length) :
    ∃ g cap junk, v = .slice (some ⟨g, 0, none⟩) l.length cap ∧ s = some (g, .cells (l.flatMap f ++ junk).toArray e (0, 0)) ∧ (l.length ≤ cap ∧ cap ≤ 9223372036854775807) ∧ (l.flatMap f ++ junk).length = cap * sz := by
  obtain ⟨_, ⟨_, h0, _⟩ | ⟨g, cap, junk, h1, h2, h3, h4⟩⟩ := h
  · omega
  · exact ⟨g, cap, junk, h1, h2, h3, h4⟩
theorem RowL.mk {l : List α} {g cap : Nat} {junk : List Value} (hf : ∀ x, (f x).length = sz) (hc : l.length ≤ cap ∧ cap ≤ 9223372036854775807) (hl : (l.flatMap f ++ junk).length = cap * sz) :
    RowL f e sz (.slice (some ⟨g, 0, none⟩) l.length cap) l (some (g, .cells (l.flatMap f ++ junk).toArray e (0, 0))) :=
  ⟨flat_len hf l, .inr ⟨g, cap, junk, rfl, rfl, hc, hl⟩⟩
end
end Go.SX
set_option linter.unusedVariables false
set_option linter.unusedSimpArgs false
/-! append to a row of which an elder slice still reads the head. -/
namespace Go.SX
open Go.RowKit
def apartS (s t : Slot) : Prop := ∀ b (o o' : Obj), s = some (b, o) → t = some (b, o') → False
theorem inj_pairwise {L : Hp} : (∀ (i j b : Nat) (o o' : Obj), L[i]? = some (some (b, o)) → L[j]? = some (some (b, o')) → i = j) ↔ L.Pairwise apartS := by
  rw [List.pairwise_iff_getElem]
  constructor
  · intro h i j hi hj hij b o o' h1 h2
    have := h i j b o o' (by rw [List.getElem?_eq_getElem hi, h1]) (by rw [List.getElem?_eq_getElem hj, h2])
    omega
  · intro h i j b o o' h1 h2
    obtain ⟨hi, e1⟩ := List.getElem?_eq_some_iff.1 h1
    obtain ⟨hj, e2⟩ := List.getElem?_eq_some_iff.1 h2
    rcases Nat.lt_trichotomy i j with hlt | rfl | hlt
    · exact (h i j hi hj hlt b o o' e1 e2).elim
    · rfl
    · exact (h j i hj hi hlt b o' o e2 e1).elim
theorem Less.of_pairwise {L L' : Hp} (h : L.Pairwise apartS → L'.Pairwise apartS) (hm : ∀ s, s ∈ L' → s ∈ L) : Less L L' := fun Γ w hi =>
  { hi with
    inj := inj_pairwise.2 (h (inj_pairwise.1 hi.inj))
    blk := fun b o hb => hi.blk b o (hm _ hb)
    src := fun b o hb => hi.src b o (hm _ hb) }
theorem Less.perm {L L' : Hp} (h : L.Perm L') : Less L L' := .of_pairwise (fun hp => (h.pairwise_iff (fun {a b} hab b' o o' h1 h2 => hab b' o' o h2 h1)).1 hp) fun s hs => h.mem_iff.2 hs
theorem Less.sublist {L L' : Hp} (h : L'.Sublist L) : Less L L' := .of_pairwise (fun hp => hp.sublist h) fun s hs => h.subset hs

section
variable {Γ : Ctx} {α : Type} {f : α → List Value}
/-- An elder slice vb reads lb: at the head of the row (v, xs), or in the block t that the row has left. -/
def View (f : α → List Value) (e : Nat) (vb : Value) (lb : List α) (v : Value) (t : Slot) (n : Nat) (xs : List Value) : Prop :=
  (∀ b o, t = some (b, o) → ∃ cs fr, o = Obj.cells cs e fr) ∧ (lb = [] ∨ ∃ g cb, vb = .slice (some ⟨g, 0, none⟩) lb.length cb ∧ lb.length ≤ cb ∧
    ((∃ cap, v = .slice (some ⟨g, 0, none⟩) n cap ∧ lb.flatMap f <+: xs) ∨ ∃ (cs : List Value) (ty : TypeId) (fr : Nat × Nat), t = some (g, .cells cs.toArray ty fr) ∧ lb.flatMap f <+: cs))
theorem View.sl {e sz n : Nat} {v vb : Value} {lb : List α} {s t : Slot} {xs : List Value} {P L0 : Hp} (hf : ∀ x, (f x).length = sz) (h : View f e vb lb v t n xs) (hr : Row e sz v n xs s) (hvb : ∃ A c, vb = .slice A lb.length c ∧ lb.length ≤ c) : SlS sz f (Cell Γ (P ++ s :: t :: L0)) vb lb := by
  obtain ⟨A, c, rfl, hc⟩ := hvb
  refine ⟨A, c, rfl, hc, fun j x hj => ?_⟩
  obtain ⟨_, h⟩ := h
  rcases h with rfl | ⟨g, cb, e1, e2, h⟩
  · simp at hj
  cases e1
  refine ⟨_, rfl, fun i u hu => ?_⟩
  have hi : i < sz := by rw [← hf x]; exact (List.getElem?_eq_some_iff.1 hu).1
  have hflat : (lb.flatMap f)[j * sz + i]? = some u := by rw [flat_at hf hj hi]; exact hu
  have pre : ∀ {cs : List Value}, lb.flatMap f <+: cs → cs[j * sz + i]? = some u := fun {cs} hp => by
    obtain ⟨r, rfl⟩ := hp
    rw [List.getElem?_append_left (List.getElem?_eq_some_iff.1 hflat).1]; exact hflat
  rw [add_addS, Addr.add_lit, Nat.zero_add]
  rcases h with ⟨cap, rfl, hp⟩ | ⟨cs, ty, fr, rfl, hp⟩
  · obtain ⟨_, ⟨e3, _, _⟩ | ⟨g', cap', junk, e3, rfl, _, _⟩⟩ := hr
    · cases e3
    · cases e3
      refine Cell.at (xs := xs ++ junk) (t := e) (fr := (0, 0)) P.length (by simp) ?_
      exact pre (hp.trans (List.prefix_append _ _))
  · refine Cell.at (xs := cs) (t := ty) (fr := fr) (P.length + 1) (by simp) ?_
    exact pre hp
end
end Go.SX
set_option linter.unusedVariables false
set_option linter.unusedSimpArgs false
/-! copy(dst, src): cells, whole numbers, structs; cells that stay where a slot changes. -/
namespace Go.SX
open Go.RowKit Go.ChangeShapes Go.WideShapes Go.ChangeAt
section
variable {Γ : Ctx} {L : Hp}
theorem RowI.form2 {k : IntKind} {e : TypeId} {v : Value} {l : List Int} {s : Slot} (h : RowI k e v l s) (hl : 0 < l.length) :
    ∃ r cap junk, v = .slice (some ⟨r, 0, none⟩) l.length cap ∧ s = some (r, .cells (SX.ints k l ++ junk).toArray e (0, 0)) ∧ (l.length ≤ cap ∧ cap ≤ 9223372036854775807) ∧ l.length + junk.length = cap := by
  obtain ⟨_, ⟨_, hn, _⟩ | ⟨r, cap, junk, h1, h2, h3, h4⟩⟩ := h
  · omega
  · refine ⟨r, cap, junk, h1, h2, h3, ?_⟩
    rw [List.length_append, ints_length] at h4
    omega
theorem RowI.mk2 {k : IntKind} {e : TypeId} {l : List Int} {r cap : Nat} {junk : List Value} (hc : l.length ≤ cap ∧ cap ≤ 9223372036854775807) (hj : l.length + junk.length = cap) :
    RowI k e (.slice (some ⟨r, 0, none⟩) l.length cap) l (some (r, .cells (SX.ints k l ++ junk).toArray e (0, 0))) :=
  ⟨by rw [ints_length, Nat.mul_one], .inr ⟨r, cap, junk, rfl, rfl, hc, by rw [List.length_append, ints_length]; omega⟩⟩
theorem YCopy.cells {ty tx e : TypeId} {sz by_ b off dn dc m c i : Nat} {A : Option Addr} {src cs : List Value} {t' : TypeId} {fr : Nat × Nat} {K : Value → Hp → Prop}
    (hel : elS Γ.P ty = some (e, sz, by_)) (hsl : src.length = m * sz) (hsrc : ∀ j u, src[j]? = some u → ∃ a, A = some a ∧ Cell Γ L (a.add j) u) (h1 : oneB src = true)
    (hL : L[i]? = some (some (b, .cells cs.toArray t' fr))) (hfit : off + min m dn * sz ≤ cs.length) (hfr : off + min m dn * sz ≤ fr.1 ∨ fr.2 ≤ off)
    (hk : K (.int .i64 ((min m dn : Nat) : Int)) (L.set i (some (b, .cells (setN cs off (src.take (min m dn * sz))).toArray t' fr)))) :
    YCopy Γ ty tx (.slice (some ⟨b, off, none⟩) dn dc) (.slice A m c) L K := by
  intro w hi
  obtain ⟨hu, i0, hi1, hi2, hi3⟩ := elS_some hel
  have hblk := hi.blk _ _ (List.mem_of_getElem? hL)
  have hlen : (src.take (min m dn * sz)).length = min m dn * sz := by
    rw [List.length_take, hsl]
    exact Nat.min_eq_left (Nat.mul_le_mul_right _ (Nat.min_le_left _ _))
  have hone : oneB (src.take (min m dn * sz)) = true := List.all_eq_true.2 fun u hu => List.all_eq_true.1 h1 u (List.mem_of_mem_take hu)
  have hf : (Builtin.firstCells i0.size (Nat.min m dn) (.slice A m c)).run Γ.P w = .ok (src.take (min m dn * sz)).toArray w := by
    cases hs : src with
    | nil =>
      cases A with
      | none => rw [List.take_nil]; exact run_firstCells_none w _ _ _ _
      | some a => exact run_firstCells_some w _ _ a m c _ (by rw [List.take_nil, hi2]; rw [hs, List.take_nil] at hlen; exact hlen) (fun j v hj => by simp at hj)
    | cons u0 us =>
      obtain ⟨a, rfl, _⟩ := hsrc 0 u0 (by rw [hs]; rfl)
      rw [← hs]
      refine run_firstCells_some w _ _ a m c _ (by rw [hi2]; exact hlen) (fun j v hj => ?_)
      rw [List.getElem?_take] at hj
      split at hj
      · obtain ⟨a', ha', hc⟩ := hsrc j v hj
        cases ha'
        exact hc.real hi
      · cases hj
  obtain ⟨w', hr, h2, h3, h4, h5, h6, h7⟩ := run_storeCells (P := Γ.P) (src.take (min m dn * sz)) w b off 0 cs t' fr hblk (by rw [hlen]; simpa using hfit) (by rw [hlen]; simpa using hfr) hone
  refine ⟨_, w', _, fun t => ?_, hi.set hL (by simpa using h2) h3 h4 h5 h6 h7, hk⟩
  simp [Builtin.copy_, run_underlying hu, Builtin.lenOf, sizeOf, typeInfo, hi1, hf, hr]
  rfl
theorem YCopy.ints {k : IntKind} {ty tx e : TypeId} {by_ b dn dc i : Nat} {x : Value} {l : List Int} {cs : List Value} {t' : TypeId} {fr : Nat × Nat} {K : Value → Hp → Prop}
    (hel : elS Γ.P ty = some (e, 1, by_)) (hx : SlI k (Cell Γ L) x l)
    (hL : L[i]? = some (some (b, .cells cs.toArray t' fr))) (hfit : min l.length dn ≤ cs.length) (hfr : min l.length dn ≤ fr.1 ∨ fr.2 ≤ 0)
    (hk : K (.int .i64 ((min l.length dn : Nat) : Int)) (L.set i (some (b, .cells (SX.ints k (l.take dn) ++ cs.drop (min l.length dn)).toArray t' fr)))) :
    YCopy Γ ty tx (.slice (some ⟨b, 0, none⟩) dn dc) x L K := by
  obtain ⟨A, c, rfl, hc, hA⟩ := hx
  refine YCopy.cells (i := i) (src := SX.ints k l) (off := 0) hel (by rw [ints_length, Nat.mul_one]) (fun j u hj => ?_) (ints_oneB k l) hL (by omega) (by omega) ?_
  · rw [ints_at] at hj
    obtain ⟨x, hx, rfl⟩ := Option.map_eq_some_iff.1 hj
    obtain ⟨a', ha', hc'⟩ := hA j x hx
    exact ⟨a', ha', by simpa [RInt] using hc'⟩
  · have e1 : (SX.ints k l).take (min l.length dn * 1) = SX.ints k (l.take dn) := by
      rw [Nat.mul_one]
      unfold SX.ints
      rw [← List.map_take]
      congr 1
      by_cases h : l.length ≤ dn
      · rw [Nat.min_eq_left h, List.take_of_length_le (Nat.le_refl _), List.take_of_length_le h]
      · rw [Nat.min_eq_right (by omega)]
    have hl2 : (SX.ints k (l.take dn)).length = min l.length dn := by rw [ints_length, List.length_take, Nat.min_comm]
    have e2 := setN_app (SX.ints k (l.take dn)) [] cs (by rw [hl2]; exact hfit)
    rw [hl2] at e2
    rw [e1]
    simp only [List.nil_append, List.length_nil] at e2
    rw [e2]
    exact hk
theorem YCopy.flat {α : Type} {f : α → List Value} {ty tx e : TypeId} {sz by_ b dn dc i : Nat} {x : Value} {l : List α} {cs : List Value} {t' : TypeId} {fr : Nat × Nat} {K : Value → Hp → Prop}
    (hf : ∀ x, (f x).length = sz) (h1 : ∀ x, oneB (f x) = true) (hel : elS Γ.P ty = some (e, sz, by_)) (hx : SlS sz f (Cell Γ L) x l)
    (hL : L[i]? = some (some (b, .cells cs.toArray t' fr))) (hdn : l.length ≤ dn) (hfit : l.length * sz ≤ cs.length) (hfr : l.length * sz ≤ fr.1 ∨ fr.2 ≤ 0)
    (hk : K (.int .i64 ((l.length : Nat) : Int)) (L.set i (some (b, .cells (l.flatMap f ++ cs.drop (l.length * sz)).toArray t' fr)))) :
    YCopy Γ ty tx (.slice (some ⟨b, 0, none⟩) dn dc) x L K := by
  obtain ⟨A, c, rfl, hc, hA⟩ := hx
  have hm : min l.length dn = l.length := Nat.min_eq_left hdn
  refine YCopy.cells (i := i) (src := l.flatMap f) (off := 0) hel (flat_len hf l) (fun j u hj => ?_) ?_ hL (by rw [hm]; omega) (by rw [hm]; omega) ?_
  · have hz : 0 < sz := by
      rcases Nat.eq_zero_or_pos sz with h | h
      · have := (List.getElem?_eq_some_iff.1 hj).1; rw [flat_len hf, h] at this; omega
      · exact h
    have hlt := (List.getElem?_eq_some_iff.1 hj).1
    rw [flat_len hf] at hlt
    have hq : j / sz < l.length := by rw [Nat.div_lt_iff_lt_mul hz]; exact hlt
    have hx : l[j / sz]? = some l[j / sz] := List.getElem?_eq_getElem hq
    obtain ⟨a, ha, hR⟩ := hA _ _ hx
    have e := flat_at hf hx (Nat.mod_lt j hz)
    rw [Nat.mul_comm, Nat.div_add_mod] at e
    rw [e] at hj
    refine ⟨a, ha, ?_⟩
    have := hR _ _ hj
    rw [add_addS, Nat.mul_comm, Nat.div_add_mod] at this
    exact this
  · refine List.all_eq_true.2 fun u hu => ?_
    obtain ⟨x, hx, hux⟩ := List.mem_flatMap.1 hu
    exact List.all_eq_true.1 (h1 x) u hux
  · have e2 := setN_app (l.flatMap f) [] cs (by rw [flat_len hf]; exact hfit)
    rw [flat_len hf] at e2
    simp only [List.nil_append, List.length_nil] at e2
    rw [hm, List.take_of_length_le (by rw [flat_len hf]; exact Nat.le_refl _), e2]
    exact hk
theorem SlS.cons {α : Type} {sz : Nat} {f : α → List Value} (p : Slot) {v : Value} {xs : List α} (h : SlS sz f (Cell Γ L) v xs) : SlS sz f (Cell Γ (p :: L)) v xs := by
  obtain ⟨A, c, h1, h2, h3⟩ := h
  exact ⟨A, c, h1, h2, fun j x hj => let ⟨a, e1, e2⟩ := h3 j x hj; ⟨a, e1, fun k u hu => Cell.cons p (e2 k u hu)⟩⟩
theorem Cell.any {a : Addr} {v : Value} (h : Cell Γ [] a v) : Cell Γ L a v := by
  rcases h with ⟨_, _, _, _, hm, _⟩ | h
  · cases hm
  · exact .inr h
theorem Sl.any {α : Type} {sz : Nat} {R : (Addr → Value → Prop) → Addr → α → Prop} {v : Value} {xs : List α} (hR : ∀ a x, R (Cell Γ []) a x → R (Cell Γ L) a x) (h : Sl sz R (Cell Γ []) v xs) : Sl sz R (Cell Γ L) v xs := by
  obtain ⟨A, c, h1, h2, h3⟩ := h
  exact ⟨A, c, h1, h2, fun j x hj => let ⟨a, e1, e2⟩ := h3 j x hj; ⟨a, e1, hR _ _ e2⟩⟩
theorem SlI.any {k : IntKind} {v : Value} {xs : List Int} (h : SlI k (Cell Γ []) v xs) : SlI k (Cell Γ L) v xs := Sl.any (fun _ _ h => Cell.any h) h
theorem SCall.less {f : FuncId} {args : Array Value} {R R' : Value → Hp → Prop} (h : SCall Γ f args L R) (hr : ∀ v L', R v L' → ∃ L'', Less L' L'' ∧ R' v L'') : SCall Γ f args L R' :=
  fun w hi => (h w hi).mono fun _ _ ⟨v, L', h1, h2, h3⟩ => let ⟨L'', k1, k2⟩ := hr v L' h3; ⟨v, L'', h1, k1 _ _ h2, k2⟩
end
section
variable {H : Type} {enc : TypeId × Value → H} {P : Program}
/-- A slice that is handed in, each element opened by what its type says. -/
theorem open_slR {α : Type} {R : List Value → α → Prop} {t e : TypeId} {sz : Nat} {W : World} {v : Value} {n : Nat} {y : DataW H × List MemPlace} (hu : P.underlying t = some (.slice e)) (hc : P.cellsOf e = sz)
    (hel : ∀ n cs y, DataW.trod enc P W 0 (fun _ => true) true n e cs = some y → ∃ x, R cs x)
    (hf : DataW.trod enc P W 0 (fun _ => true) true n t [v] = some y) :
    ∃ xs : List α, Sl sz (fun C a x => ∃ cs, cs.length = sz ∧ R cs x ∧ ∀ i u, cs[i]? = some u → C (a.add i) u) (Cell ⟨P, W, []⟩ []) v xs ∧ xs.length ≤ maxLen := by
  rcases DataW.trod_slice hu hf with ⟨hcs, hx⟩ | ⟨a, len, cap, elems, rest, m, _, hcs, _, _, hl, hm, hln, hp, _⟩
  · simp at hcs
    subst hcs
    exact ⟨[], ⟨none, 0, rfl, Nat.le_refl _, fun j x hj => by simp at hj⟩, Nat.zero_le _⟩
  · simp at hcs
    subst hcs
    have key : ∀ i : Fin len, ∃ x, ∃ cs, cs.length = sz ∧ R cs x ∧ ∀ k u, cs[k]? = some u → W.cell? ((a.add (i.1 * sz)).add k) = some u := fun i => by
      have h1 := hp i.1 i.2
      rw [List.getElem?_eq_getElem (by omega), hc] at h1
      obtain ⟨cs, h2, h3⟩ := Option.bind_eq_some_iff.1 h1
      obtain ⟨x, hx⟩ := hel _ _ _ h3
      obtain ⟨c1, c2⟩ := cells_at h2
      exact ⟨x, cs, c1, hx, c2⟩
    refine ⟨List.ofFn fun i => (key i).choose, ⟨some a, cap, by rw [List.length_ofFn], by rw [List.length_ofFn]; omega, fun j x hj => ⟨a, rfl, ?_⟩⟩, by rw [List.length_ofFn]; omega⟩
    rw [List.getElem?_ofFn] at hj
    split at hj
    · rename_i hjl
      cases hj
      obtain ⟨cs, h1, h2, h3⟩ := (key ⟨j, hjl⟩).choose_spec
      exact ⟨cs, h1, h2, fun k u hk => Cell.old (by simp) (h3 k u hk)⟩
    · cases hj
theorem open_slRT {α : Type} {R : List Value → α → Prop} {t e : TypeId} {sz : Nat} {W : World} {base : Nat} {v : Value} {d : DataW H} {p : List MemPlace} (hu : P.underlying t = some (.slice e)) (hc : P.cellsOf e = sz)
    (hel : ∀ n cs y, DataW.trod enc P W 0 (fun _ => true) true n e cs = some y → ∃ x, R cs x)
    (hok : Value.okWide P W .any base t v) (h : DataW.Trod enc P W 0 (fun _ => true) true t v d p) :
    ∃ xs : List α, Sl sz (fun C a x => ∃ cs, cs.length = sz ∧ R cs x ∧ ∀ i u, cs[i]? = some u → C (a.add i) u) (Cell ⟨P, W, []⟩ []) v xs ∧ xs.length ≤ maxLen := by
  obtain ⟨a0, len, cap, rfl⟩ := okWide_slice hu hok
  obtain ⟨fuel, hf⟩ := h
  exact open_slR hu hc hel hf
end
end Go.SX
