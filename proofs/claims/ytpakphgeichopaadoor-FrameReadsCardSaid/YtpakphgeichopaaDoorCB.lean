/- A part of a proof: contracts and plain facts that it stands on. -/
import Derived.Test.YtpakphgeichopaaDoorCA
import Derived.RangeFuncNested
import Derived.RangeFuncBound
import Derived.RangeFuncLeaves
import Derived.ProofKit
import Derived.SizedLaws
import Derived.ChangeBears2
import Derived.OpenShut
import Derived.Below
import Derived.ChangeSame
import Derived.Carry
import Derived.ChangeCalls
import Derived.LaidMore
import Derived.Stop.Joined
set_option linter.unusedVariables false
set_option linter.unusedSimpArgs false
namespace Go.Proofs.YtpakphgeichopaaDoor
open Go.RowKit Go.SX
open Nat renaming reduceEqDiff → Φa, reduceBEq → Φp, reduceLeDiff → ΦS, reduceAdd → Ψb, reduceMul → Ψd, reduceSub → Ψe, add_zero → Ψg, zero_add → Ψh, reduceLT → Ψj, mul_one → Ψn, zero_le → Ψo, le_refl → Ψp
open Bool renaming false_eq_true → Φb, true_eq_false → Φc, not_eq_false' → Φd, not_eq_true' → Φe, not_eq_false → Φg, not_eq_true → Φh, not_false → Φk, and_false → Φl, false_and → Φm, not_true → Φq, and_true → Φr, true_and → Φs, and_self → Φt
open Decidable renaming not_not → Φf
open Go.SX renaming andThen_normal → Φi, andThen_exit → Φn, inBlk_normal → Φo, andThen_ret → Φu, inBlk_exit → Φw, inBlk_ret → Φx, env0_zero → Φy, env0_succ → Φz, env0_nil → ΦI, upd_app → ΦU, less_refl_t → Ψl, less_drop_t → Ψm, existsSome → Ψs, guardVC → Ψv, add_addS → Ψw, VCplan → Ψx, cells_nilIface → Ψy, cells_pointer → Ψz, cells_nilFunc → ΨA, cells_string → ΨB, one_nilIface → ΨC, cells_slice → ΨD, one_pointer → ΨE, one_nilFunc → ΨF, cells_iface → ΨG, forall_mem_cons' → ΨH
open Int renaming natCast_inj → Φj, reduceEq → Φv, toNat_natCast → Ψf, reduceToNat → Ψk, toNat_zero → Ψr, toNat_one → Ψt
open List renaming toList_toArray → ΦA, append_toArray → ΦB, drop_succ_cons → ΦC, take_succ_cons → ΦD, set_cons_zero → ΦG, set_cons_succ → ΦH, flatMap_cons → ΦK, size_toArray → ΦL, cons_append → ΦM, map_toArray → ΦP, flatMap_nil → ΦQ, length_cons → ΦR, nil_append → ΦT, append_nil → ΦX, length_nil → ΦY, drop_zero → ΦZ, take_zero → Ψa, map_cons → Ψc, map_nil → Ψi
open Option renaming isSome_some → ΦE, isSome_none → ΦF, bind_some → ΦN, bind_none → ΦO, map_some → ΦV, map_none → ΦW
open Option.some renaming injEq → ΦJ
open Go.Addr renaming add_zero' → Ψq, add_lit → Ψu

/-- Pairs of numbers, one behind the other. -/
def Pairs (Γ : Ctx) (a : Addr) (bs : List (Int × Int)) : Prop := ∀ (L : Hp) (i : Nat) (b : Int × Int), bs[i]? = some b → Cell Γ L (a.add (i * 2)) (.int .i64 b.1) ∧ Cell Γ L (a.add (i * 2 + 1)) (.int .i64 b.2)
def inB (n : Int) (b : Int × Int) : Bool := decide (b.1 ≤ n ∧ n ≤ b.2)
theorem take_any {bs : List (Int × Int)} {n : Int} {i : Nat} {b : Int × Int} (h : bs[i]? = some b) : (bs.take (i + 1)).any (inB n) = ((bs.take i).any (inB n) || inB n b) := by
  rw [List.take_add_one, h, List.any_append]
  simp
set_option maxHeartbeats 1000000 in
set_option maxRecDepth 100000 in
theorem within_spec {Γ : Ctx} (hP : Γ.P = Tryd.prog) {L : Hp} {n : Int} {a : Addr} {bs : List (Int × Int)} (hp : Pairs Γ a bs) (hm : bs.length ≤ 9223372036854775807) :
    SCall Γ 47 #[(.int .i64 n), (.slice (some a) bs.length bs.length)] L (fun v L' => v = .bool (bs.any (inB n)) ∧ L' = L) := by
  refine SCall.enter (n := 24) (res1 4) (hP ▸ Tryd.func47) rfl rfl (by simp) (res1_ok rfl) ?_
  refine SX.seq_k fun K1 hK1 => ?_
  refine SX.region ?_
  simp (maxSteps := 1000000) only [ΦU,Φy,Φz,ΦI,ev,Φi,Φu,Φn,Φo,Φx,Φw,Φa,Φp,reduceIte,reduceCtorEq,if_true,if_false,Φq,Φk,Φb,Φc,true_and,and_true,false_and,and_false,true_implies,forall_const,false_implies,ne_eq,not_true_eq_false,not_false_eq_true,decide_true,decide_false,Φv,and_self,true_or,or_true,dite_true,dite_false,Φe,Φd,decide_eq_true_eq,decide_eq_false_iff_not,Φf,Φh,Φg,Φj,beq_self_eq_true,Φr,Φs,Φt,Φl,Φm,eq_self,Ψx,Ψl,Ψm,VCops,VQops,Ψv,putVC,VC,VQ,ΦV,ΦW,ΦN,ΦO,ΦE,ΦF,ΦJ,List.getElem?_cons_zero,List.getElem?_cons_succ,List.getElem?_nil,List.getElem?_toArray,Ψc,Ψi,ΦP,ΦA,ΦB,ΦT,ΦM,ΦX,ΦK,ΦQ,ΦR,ΦY,ΦG,ΦH,ΦZ,ΦC,ΦD,Ψa,ΦL,Ψj,ΦS,Ψb,Ψd,Ψe,Ψg,Ψh,Ψn,exists_eq_left,exists_eq_left',exists_const,Ψs,Ψo,Ψp,hP]
  refine hK1 _ _ ?_
  try clear hK1 K1
  refine SX.seq_k fun K2 hK2 => ?_
  refine SX.seq_k fun K3 hK3 => ?_
  refine SX.region ?_
  simp (maxSteps := 1000000) only [ΦU,Φy,Φz,ΦI,ev,Φi,Φu,Φn,Φo,Φx,Φw,Φa,Φp,reduceIte,reduceCtorEq,if_true,if_false,Φq,Φk,Φb,Φc,true_and,and_true,false_and,and_false,true_implies,forall_const,false_implies,ne_eq,not_true_eq_false,not_false_eq_true,decide_true,decide_false,Φv,and_self,true_or,or_true,dite_true,dite_false,Φe,Φd,decide_eq_true_eq,decide_eq_false_iff_not,Φf,Φh,Φg,Φj,beq_self_eq_true,Φr,Φs,Φt,Φl,Φm,eq_self,Ψx,Ψl,Ψm,VCops,VQops,Ψv,putVC,VC,VQ,ΦV,ΦW,ΦN,ΦO,ΦE,ΦF,ΦJ,List.getElem?_cons_zero,List.getElem?_cons_succ,List.getElem?_nil,List.getElem?_toArray,Ψc,Ψi,ΦP,ΦA,ΦB,ΦT,ΦM,ΦX,ΦK,ΦQ,ΦR,ΦY,ΦG,ΦH,ΦZ,ΦC,ΦD,Ψa,ΦL,Ψj,ΦS,Ψb,Ψd,Ψe,Ψg,Ψh,Ψn,exists_eq_left,exists_eq_left',exists_const,Ψs,Ψo,Ψp,qcall_f,call_f,len_slice,len_str,cap_slice,min_int,max_int,T.elS_88,T.szA_88,T.zr_88,Tryd.underlying88,hP]
  refine hK3 _ _ ?_
  try clear hK3 K3
  refine SX.block ?_
  refine SX.live [0, 7, 8, 9] (fun T1 hT1 => ?_)
  simp only [ΨH,forall_mem_nil',ΦU,Φy,Φz,ΦI,ev,Φi,Φu,Φn,Φo,Φx,Φw,Φa,Φp,reduceIte,reduceCtorEq,if_true,if_false,Φq,Φk,Φb,Φc,true_and,and_true,false_and,and_false,true_implies,forall_const,false_implies,ne_eq,not_true_eq_false,not_false_eq_true,decide_true,decide_false,Φv,and_self,true_or,or_true,dite_true,dite_false,Φe,Φd,decide_eq_true_eq,decide_eq_false_iff_not,Φf,Φh,Φg,Φj,beq_self_eq_true,Φr,Φs,Φt,Φl,Φm,eq_self,hP] at hT1
  obtain ⟨h1_0, h1_7, h1_8, h1_9⟩ := hT1
  refine SX.loop_k (fun (ss : (Nat)) T L' => (fun (i : Nat) => T 9 = .int .i64 (i : Int) ∧ T 0 = T1 0 ∧ T 7 = T1 7 ∧ T 8 = T1 8 ∧ L' = L ∧ (i ≤ bs.length ∧ (bs.take i).any (inB n) = false)) (ss)) (fun (ss : (Nat)) => (fun (i : Nat) => bs.length - i) (ss)) 0 ?_ ?_
  · try dsimp only
    refine ⟨?_, ?_, ?_, ?_, ?_, ?_⟩
    · first | exact h1_9 | (rw [h1_9]; rfl) | (rw [h1_9]; simp; done)
    · rfl
    · rfl
    · rfl
    · rfl
    · exact ⟨Nat.zero_le _, rfl⟩
  · intro i T2 L2 hI K4 hK4
    try dsimp only at hI hK4
    simp only [h1_0, h1_7, h1_8] at hI hK4
    obtain ⟨h2_9, h2_0, h2_7, h2_8, hL2, ⟨hi, hno⟩⟩ := hI
    replace hL2 := hL2.symm
    subst hL2
    clear h1_0 h1_7 h1_8 h1_9 T1
    refine SX.seq_k fun K5 hK5 => ?_
    refine SX.region ?_
    simp (maxSteps := 1000000) only [ΦU,Φy,Φz,ΦI,ev,Φi,Φu,Φn,Φo,Φx,Φw,Φa,Φp,reduceIte,reduceCtorEq,if_true,if_false,Φq,Φk,Φb,Φc,true_and,and_true,false_and,and_false,true_implies,forall_const,false_implies,ne_eq,not_true_eq_false,not_false_eq_true,decide_true,decide_false,Φv,and_self,true_or,or_true,dite_true,dite_false,Φe,Φd,decide_eq_true_eq,decide_eq_false_iff_not,Φf,Φh,Φg,Φj,beq_self_eq_true,Φr,Φs,Φt,Φl,Φm,eq_self,Ψx,Ψl,Ψm,VCops,VQops,Ψv,putVC,VC,VQ,ΦV,ΦW,ΦN,ΦO,ΦE,ΦF,ΦJ,List.getElem?_cons_zero,List.getElem?_cons_succ,List.getElem?_nil,List.getElem?_toArray,Ψc,Ψi,ΦP,ΦA,ΦB,ΦT,ΦM,ΦX,ΦK,ΦQ,ΦR,ΦY,ΦG,ΦH,ΦZ,ΦC,ΦD,Ψa,ΦL,Ψj,ΦS,Ψb,Ψd,Ψe,Ψg,Ψh,Ψn,exists_eq_left,exists_eq_left',exists_const,Ψs,Ψo,Ψp,bin_lss,hP,h2_9,h2_0,h2_7,h2_8]
    refine hK5 _ _ ?_
    try clear hK5 K5
    refine SX.seq_k fun K6 hK6 => ?_
    refine SX.cond_k fun X7 Y7 hX7 hY7 => ?_
    simp (maxSteps := 1000000) only [ΦU,Φy,Φz,ΦI,ev,Φi,Φu,Φn,Φo,Φx,Φw,Φa,Φp,reduceIte,reduceCtorEq,if_true,if_false,Φq,Φk,Φb,Φc,true_and,and_true,false_and,and_false,true_implies,forall_const,false_implies,ne_eq,not_true_eq_false,not_false_eq_true,decide_true,decide_false,Φv,and_self,true_or,or_true,dite_true,dite_false,Φe,Φd,decide_eq_true_eq,decide_eq_false_iff_not,Φf,Φh,Φg,Φj,beq_self_eq_true,Φr,Φs,Φt,Φl,Φm,eq_self,hP,h2_9,h2_0,h2_7,h2_8,condVC]
    refine ⟨fun hc10 => hX7 ?_, fun hc10 => hY7 ?_⟩
    · clear hX7 hY7 X7 Y7
      refine SX.skip ?_
      simp only [Φi, Φu, Φn, Φo, Φx, Φw, Φa, if_true, if_false, reduceIte]
      refine hK6 _ _ ?_
      try clear hK6 K6
      refine SX.seq_k fun K8 hK8 => ?_
      refine SX.block ?_
      refine SX.seq_k fun K9 hK9 => ?_
      obtain ⟨b, hb⟩ : ∃ b, bs[i]? = some b := ⟨_, List.getElem?_eq_getElem (by omega)⟩
      obtain ⟨hb1, hb2⟩ := hp L i b hb
      refine SX.region ?_
      simp (maxSteps := 1000000) only [ΦU,Φy,Φz,ΦI,ev,Φi,Φu,Φn,Φo,Φx,Φw,Φa,Φp,reduceIte,reduceCtorEq,if_true,if_false,Φq,Φk,Φb,Φc,true_and,and_true,false_and,and_false,true_implies,forall_const,false_implies,ne_eq,not_true_eq_false,not_false_eq_true,decide_true,decide_false,Φv,and_self,true_or,or_true,dite_true,dite_false,Φe,Φd,decide_eq_true_eq,decide_eq_false_iff_not,Φf,Φh,Φg,Φj,beq_self_eq_true,Φr,Φs,Φt,Φl,Φm,eq_self,Ψx,Ψl,Ψm,VCops,VQops,Ψv,putVC,VC,VQ,ΦV,ΦW,ΦN,ΦO,ΦE,ΦF,ΦJ,List.getElem?_cons_zero,List.getElem?_cons_succ,List.getElem?_nil,List.getElem?_toArray,Ψc,Ψi,ΦP,ΦA,ΦB,ΦT,ΦM,ΦX,ΦK,ΦQ,ΦR,ΦY,ΦG,ΦH,ΦZ,ΦC,ΦD,Ψa,ΦL,Ψj,ΦS,Ψb,Ψd,Ψe,Ψg,Ψh,Ψn,exists_eq_left,exists_eq_left',exists_const,Ψs,Ψo,Ψp,ia_slice,ia_arr,Ψu,Ψq,Ψw,Ψf,Ψr,Ψt,Ψk,T.elS_88,T.szA_88,T.zr_88,Tryd.underlying88,ld_ptr,loadVC,loadN,T.elA_89,T.lay_89,T.szA_89,T.zr_89,Tryd.underlying89,cells_int,cells_bool,ΨB,Ψz,ΨD,cells_agg,oneB_nil,oneB_cons,one_int,one_bool,one_string,ΨE,one_slice,one_map,one_func,ΨF,ΨC,one_iface,cells_map,cells_func,ΨA,Ψy,ΨG,st_ptr,storeVC,setN,hP,h2_9,h2_0,h2_7,h2_8]
      refine ⟨⟨by omega, by omega⟩, _, hb1, _, hb2, ?_⟩
      try simp (maxSteps := 1000000) only [ΦU,Φy,Φz,ΦI,ev,Φi,Φu,Φn,Φo,Φx,Φw,Φa,Φp,reduceIte,reduceCtorEq,if_true,if_false,Φq,Φk,Φb,Φc,true_and,and_true,false_and,and_false,true_implies,forall_const,false_implies,ne_eq,not_true_eq_false,not_false_eq_true,decide_true,decide_false,Φv,and_self,true_or,or_true,dite_true,dite_false,Φe,Φd,decide_eq_true_eq,decide_eq_false_iff_not,Φf,Φh,Φg,Φj,beq_self_eq_true,Φr,Φs,Φt,Φl,Φm,eq_self,Ψx,Ψl,Ψm,VCops,VQops,Ψv,putVC,VC,VQ,ΦV,ΦW,ΦN,ΦO,ΦE,ΦF,ΦJ,List.getElem?_cons_zero,List.getElem?_cons_succ,List.getElem?_nil,List.getElem?_toArray,Ψc,Ψi,ΦP,ΦA,ΦB,ΦT,ΦM,ΦX,ΦK,ΦQ,ΦR,ΦY,ΦG,ΦH,ΦZ,ΦC,ΦD,Ψa,ΦL,Ψj,ΦS,Ψb,Ψd,Ψe,Ψg,Ψh,Ψn,exists_eq_left,exists_eq_left',exists_const,Ψs,Ψo,Ψp,ia_slice,ia_arr,Ψu,Ψq,Ψw,Ψf,Ψr,Ψt,Ψk,T.elS_88,T.szA_88,T.zr_88,Tryd.underlying88,ld_ptr,loadVC,loadN,T.elA_89,T.lay_89,T.szA_89,T.zr_89,Tryd.underlying89,cells_int,cells_bool,ΨB,Ψz,ΨD,cells_agg,oneB_nil,oneB_cons,one_int,one_bool,one_string,ΨE,one_slice,one_map,one_func,ΨF,ΨC,one_iface,cells_map,cells_func,ΨA,Ψy,ΨG,st_ptr,storeVC,setN,hP,h2_9,h2_0,h2_7,h2_8]
      intro bk
      refine ⟨0, _, _, _, rfl, by decide, .inr (by decide), ?_⟩
      try simp (maxSteps := 1000000) only [ΦU,Φy,Φz,ΦI,ev,Φi,Φu,Φn,Φo,Φx,Φw,Φa,Φp,reduceIte,reduceCtorEq,if_true,if_false,Φq,Φk,Φb,Φc,true_and,and_true,false_and,and_false,true_implies,forall_const,false_implies,ne_eq,not_true_eq_false,not_false_eq_true,decide_true,decide_false,Φv,and_self,true_or,or_true,dite_true,dite_false,Φe,Φd,decide_eq_true_eq,decide_eq_false_iff_not,Φf,Φh,Φg,Φj,beq_self_eq_true,Φr,Φs,Φt,Φl,Φm,eq_self,Ψx,Ψl,Ψm,VCops,VQops,Ψv,putVC,VC,VQ,ΦV,ΦW,ΦN,ΦO,ΦE,ΦF,ΦJ,List.getElem?_cons_zero,List.getElem?_cons_succ,List.getElem?_nil,List.getElem?_toArray,Ψc,Ψi,ΦP,ΦA,ΦB,ΦT,ΦM,ΦX,ΦK,ΦQ,ΦR,ΦY,ΦG,ΦH,ΦZ,ΦC,ΦD,Ψa,ΦL,Ψj,ΦS,Ψb,Ψd,Ψe,Ψg,Ψh,Ψn,exists_eq_left,exists_eq_left',exists_const,Ψs,Ψo,Ψp,ia_slice,ia_arr,Ψu,Ψq,Ψw,Ψf,Ψr,Ψt,Ψk,T.elS_88,T.szA_88,T.zr_88,Tryd.underlying88,ld_ptr,loadVC,loadN,T.elA_89,T.lay_89,T.szA_89,T.zr_89,Tryd.underlying89,cells_int,cells_bool,ΨB,Ψz,ΨD,cells_agg,oneB_nil,oneB_cons,one_int,one_bool,one_string,ΨE,one_slice,one_map,one_func,ΨF,ΨC,one_iface,cells_map,cells_func,ΨA,Ψy,ΨG,st_ptr,storeVC,setN,hP,h2_9,h2_0,h2_7,h2_8]
      refine hK9 _ _ ?_
      try clear hK9 K9
      refine SX.seq_k fun K10 hK10 => ?_
      refine SX.region_x ?_
      refine RX.live [0, 6, 7, 8, 9] (fun T3 hT3 => ?_)
      simp only [ΨH,forall_mem_nil',ΦU,Φy,Φz,ΦI,ev,Φi,Φu,Φn,Φo,Φx,Φw,Φa,Φp,reduceIte,reduceCtorEq,if_true,if_false,Φq,Φk,Φb,Φc,true_and,and_true,false_and,and_false,true_implies,forall_const,false_implies,ne_eq,not_true_eq_false,not_false_eq_true,decide_true,decide_false,Φv,and_self,true_or,or_true,dite_true,dite_false,Φe,Φd,decide_eq_true_eq,decide_eq_false_iff_not,Φf,Φh,Φg,Φj,beq_self_eq_true,Φr,Φs,Φt,Φl,Φm,eq_self,hP,h2_9,h2_0,h2_7,h2_8] at hT3
      obtain ⟨h3_0, h3_6, h3_7, h3_8, h3_9⟩ := hT3
      clear h2_9 h2_0 h2_7 h2_8 T2
      refine RX.join 10 (fun (ss : Unit) T L' => T 22 = .bool (decide (b.1 ≤ n ∧ n ≤ b.2)) ∧ T 0 = T3 0 ∧ T 7 = T3 7 ∧ T 8 = T3 8 ∧ T 9 = T3 9 ∧ L' = some (bk, .cells #[.int .i64 b.1, .int .i64 b.2] 89 (0, 0)) :: L ∧ (True)) (fun K11 hK11 => ?_) ?_
      · simp only [h3_0, h3_7, h3_8, h3_9] at hK11
        simp (maxSteps := 1000000) only [ΦU,Φy,Φz,ΦI,ev,Φi,Φu,Φn,Φo,Φx,Φw,Φa,Φp,reduceIte,reduceCtorEq,if_true,if_false,Φq,Φk,Φb,Φc,true_and,and_true,false_and,and_false,true_implies,forall_const,false_implies,ne_eq,not_true_eq_false,not_false_eq_true,decide_true,decide_false,Φv,and_self,true_or,or_true,dite_true,dite_false,Φe,Φd,decide_eq_true_eq,decide_eq_false_iff_not,Φf,Φh,Φg,Φj,beq_self_eq_true,Φr,Φs,Φt,Φl,Φm,eq_self,Ψx,Ψl,Ψm,VCops,VQops,Ψv,putVC,VC,VQ,ΦV,ΦW,ΦN,ΦO,ΦE,ΦF,ΦJ,List.getElem?_cons_zero,List.getElem?_cons_succ,List.getElem?_nil,List.getElem?_toArray,Ψc,Ψi,ΦP,ΦA,ΦB,ΦT,ΦM,ΦX,ΦK,ΦQ,ΦR,ΦY,ΦG,ΦH,ΦZ,ΦC,ΦD,Ψa,ΦL,Ψj,ΦS,Ψb,Ψd,Ψe,Ψg,Ψh,Ψn,exists_eq_left,exists_eq_left',exists_const,Ψs,Ψo,Ψp,ia_slice,ia_arr,Ψu,Ψq,Ψw,Ψf,Ψr,Ψt,Ψk,T.elA_89,T.lay_89,T.szA_89,T.zr_89,Tryd.underlying89,ld_ptr,loadVC,loadN,T.szA_3,T.zr_3,Tryd.underlying3,bin_geq,bin_leq,pick_bool,hP,h3_0,h3_6,h3_7,h3_8,h3_9]
        repeat' (first | refine iteB (fun hg => ?_) (fun hg => ?_) | refine iteI (fun hg => ?_) (fun hg => ?_) | ((first | refine ⟨by omega, ?_⟩ | refine ⟨_, Cell.at 0 rfl rfl, ?_⟩ | fail); try simp (maxSteps := 1000000) only [ΦU,Φy,Φz,ΦI,ev,Φi,Φu,Φn,Φo,Φx,Φw,Φa,Φp,reduceIte,reduceCtorEq,if_true,if_false,Φq,Φk,Φb,Φc,true_and,and_true,false_and,and_false,true_implies,forall_const,false_implies,ne_eq,not_true_eq_false,not_false_eq_true,decide_true,decide_false,Φv,and_self,true_or,or_true,dite_true,dite_false,Φe,Φd,decide_eq_true_eq,decide_eq_false_iff_not,Φf,Φh,Φg,Φj,beq_self_eq_true,Φr,Φs,Φt,Φl,Φm,eq_self,Ψx,Ψl,Ψm,VCops,VQops,Ψv,putVC,VC,VQ,ΦV,ΦW,ΦN,ΦO,ΦE,ΦF,ΦJ,List.getElem?_cons_zero,List.getElem?_cons_succ,List.getElem?_nil,List.getElem?_toArray,Ψc,Ψi,ΦP,ΦA,ΦB,ΦT,ΦM,ΦX,ΦK,ΦQ,ΦR,ΦY,ΦG,ΦH,ΦZ,ΦC,ΦD,Ψa,ΦL,Ψj,ΦS,Ψb,Ψd,Ψe,Ψg,Ψh,Ψn,exists_eq_left,exists_eq_left',exists_const,Ψs,Ψo,Ψp,ia_slice,ia_arr,Ψu,Ψq,Ψw,Ψf,Ψr,Ψt,Ψk,T.elA_89,T.lay_89,T.szA_89,T.zr_89,Tryd.underlying89,ld_ptr,loadVC,loadN,T.szA_3,T.zr_3,Tryd.underlying3,bin_geq,bin_leq,pick_bool,hP,h3_0,h3_6,h3_7,h3_8,h3_9]) | fail)
        all_goals
          refine hK11 () _ (some (bk, .cells #[.int .i64 b.1, .int .i64 b.2] 89 (0, 0)) :: L) _ (by first | exact Less.refl _ | exact Less.drop _ _ | exact Less.drops (Less.drop _ _) | exact Less.drops (Less.drops (Less.drop _ _)) | exact Less.drops (Less.drops (Less.drops (Less.drop _ _))) | exact Less.drops (Less.drops (Less.drops (Less.drops (Less.drop _ _))))) ?_
          try dsimp only
          refine ⟨?_, ?_, ?_, ?_, ?_, ?_, ?_⟩
          · simp (maxSteps := 1000000) only [ΦU,Φy,Φz,ΦI,ev,Φi,Φu,Φn,Φo,Φx,Φw,Φa,Φp,reduceIte,reduceCtorEq,if_true,if_false,Φq,Φk,Φb,Φc,true_and,and_true,false_and,and_false,true_implies,forall_const,false_implies,ne_eq,not_true_eq_false,not_false_eq_true,decide_true,decide_false,Φv,and_self,true_or,or_true,dite_true,dite_false,Φe,Φd,decide_eq_true_eq,decide_eq_false_iff_not,Φf,Φh,Φg,Φj,beq_self_eq_true,Φr,Φs,Φt,Φl,Φm,eq_self,hP,h3_0,h3_6,h3_7,h3_8,h3_9]
            first | done | exact congrArg _ (decide_eq_decide.2 (by omega)) | exact congrArg _ (decide_eq_true (by omega)).symm | exact congrArg _ (decide_eq_false (by omega)).symm
          · simp (maxSteps := 1000000) only [ΦU,Φy,Φz,ΦI,ev,Φi,Φu,Φn,Φo,Φx,Φw,Φa,Φp,reduceIte,reduceCtorEq,if_true,if_false,Φq,Φk,Φb,Φc,true_and,and_true,false_and,and_false,true_implies,forall_const,false_implies,ne_eq,not_true_eq_false,not_false_eq_true,decide_true,decide_false,Φv,and_self,true_or,or_true,dite_true,dite_false,Φe,Φd,decide_eq_true_eq,decide_eq_false_iff_not,Φf,Φh,Φg,Φj,beq_self_eq_true,Φr,Φs,Φt,Φl,Φm,eq_self,hP,h3_0,h3_6,h3_7,h3_8,h3_9]
          · simp (maxSteps := 1000000) only [ΦU,Φy,Φz,ΦI,ev,Φi,Φu,Φn,Φo,Φx,Φw,Φa,Φp,reduceIte,reduceCtorEq,if_true,if_false,Φq,Φk,Φb,Φc,true_and,and_true,false_and,and_false,true_implies,forall_const,false_implies,ne_eq,not_true_eq_false,not_false_eq_true,decide_true,decide_false,Φv,and_self,true_or,or_true,dite_true,dite_false,Φe,Φd,decide_eq_true_eq,decide_eq_false_iff_not,Φf,Φh,Φg,Φj,beq_self_eq_true,Φr,Φs,Φt,Φl,Φm,eq_self,hP,h3_0,h3_6,h3_7,h3_8,h3_9]
          · simp (maxSteps := 1000000) only [ΦU,Φy,Φz,ΦI,ev,Φi,Φu,Φn,Φo,Φx,Φw,Φa,Φp,reduceIte,reduceCtorEq,if_true,if_false,Φq,Φk,Φb,Φc,true_and,and_true,false_and,and_false,true_implies,forall_const,false_implies,ne_eq,not_true_eq_false,not_false_eq_true,decide_true,decide_false,Φv,and_self,true_or,or_true,dite_true,dite_false,Φe,Φd,decide_eq_true_eq,decide_eq_false_iff_not,Φf,Φh,Φg,Φj,beq_self_eq_true,Φr,Φs,Φt,Φl,Φm,eq_self,hP,h3_0,h3_6,h3_7,h3_8,h3_9]
          · simp (maxSteps := 1000000) only [ΦU,Φy,Φz,ΦI,ev,Φi,Φu,Φn,Φo,Φx,Φw,Φa,Φp,reduceIte,reduceCtorEq,if_true,if_false,Φq,Φk,Φb,Φc,true_and,and_true,false_and,and_false,true_implies,forall_const,false_implies,ne_eq,not_true_eq_false,not_false_eq_true,decide_true,decide_false,Φv,and_self,true_or,or_true,dite_true,dite_false,Φe,Φd,decide_eq_true_eq,decide_eq_false_iff_not,Φf,Φh,Φg,Φj,beq_self_eq_true,Φr,Φs,Φt,Φl,Φm,eq_self,hP,h3_0,h3_6,h3_7,h3_8,h3_9]
          · rfl
          · trivial
      · intro ss T4 L4 hI
        simp only [h3_0, h3_7, h3_8, h3_9] at hI 
        obtain ⟨h4_22, h4_0, h4_7, h4_8, h4_9, hL4, hinv⟩ := hI
        replace hL4 := hL4.symm
        subst hL4
        clear h3_0 h3_6 h3_7 h3_8 h3_9 T3
        refine RX.done ?_
        simp (maxSteps := 1000000) only [ΦU,Φy,Φz,ΦI,ev,Φi,Φu,Φn,Φo,Φx,Φw,Φa,Φp,reduceIte,reduceCtorEq,if_true,if_false,Φq,Φk,Φb,Φc,true_and,and_true,false_and,and_false,true_implies,forall_const,false_implies,ne_eq,not_true_eq_false,not_false_eq_true,decide_true,decide_false,Φv,and_self,true_or,or_true,dite_true,dite_false,Φe,Φd,decide_eq_true_eq,decide_eq_false_iff_not,Φf,Φh,Φg,Φj,beq_self_eq_true,Φr,Φs,Φt,Φl,Φm,eq_self,Ψx,Ψl,Ψm,VCops,VQops,Ψv,putVC,VC,VQ,ΦV,ΦW,ΦN,ΦO,ΦE,ΦF,ΦJ,List.getElem?_cons_zero,List.getElem?_cons_succ,List.getElem?_nil,List.getElem?_toArray,Ψc,Ψi,ΦP,ΦA,ΦB,ΦT,ΦM,ΦX,ΦK,ΦQ,ΦR,ΦY,ΦG,ΦH,ΦZ,ΦC,ΦD,Ψa,ΦL,Ψj,ΦS,Ψb,Ψd,Ψe,Ψg,Ψh,Ψn,exists_eq_left,exists_eq_left',exists_const,Ψs,Ψo,Ψp,hP,h4_22,h4_0,h4_7,h4_8,h4_9]
        refine hK10 _ _ ?_
        try clear hK10 K10
        refine SX.cond_k fun X12 Y12 hX12 hY12 => ?_
        simp (maxSteps := 1000000) only [ΦU,Φy,Φz,ΦI,ev,Φi,Φu,Φn,Φo,Φx,Φw,Φa,Φp,reduceIte,reduceCtorEq,if_true,if_false,Φq,Φk,Φb,Φc,true_and,and_true,false_and,and_false,true_implies,forall_const,false_implies,ne_eq,not_true_eq_false,not_false_eq_true,decide_true,decide_false,Φv,and_self,true_or,or_true,dite_true,dite_false,Φe,Φd,decide_eq_true_eq,decide_eq_false_iff_not,Φf,Φh,Φg,Φj,beq_self_eq_true,Φr,Φs,Φt,Φl,Φm,eq_self,hP,h4_22,h4_0,h4_7,h4_8,h4_9,condVC]
        refine ⟨fun hc22 => hX12 ?_, fun hc22 => hY12 ?_⟩
        · clear hX12 hY12 X12 Y12
          refine SX.seq_k fun K13 hK13 => ?_
          refine SX.region ?_
          simp (maxSteps := 1000000) only [ΦU,Φy,Φz,ΦI,ev,Φi,Φu,Φn,Φo,Φx,Φw,Φa,Φp,reduceIte,reduceCtorEq,if_true,if_false,Φq,Φk,Φb,Φc,true_and,and_true,false_and,and_false,true_implies,forall_const,false_implies,ne_eq,not_true_eq_false,not_false_eq_true,decide_true,decide_false,Φv,and_self,true_or,or_true,dite_true,dite_false,Φe,Φd,decide_eq_true_eq,decide_eq_false_iff_not,Φf,Φh,Φg,Φj,beq_self_eq_true,Φr,Φs,Φt,Φl,Φm,eq_self,Ψx,Ψl,Ψm,VCops,VQops,Ψv,putVC,VC,VQ,ΦV,ΦW,ΦN,ΦO,ΦE,ΦF,ΦJ,List.getElem?_cons_zero,List.getElem?_cons_succ,List.getElem?_nil,List.getElem?_toArray,Ψc,Ψi,ΦP,ΦA,ΦB,ΦT,ΦM,ΦX,ΦK,ΦQ,ΦR,ΦY,ΦG,ΦH,ΦZ,ΦC,ΦD,Ψa,ΦL,Ψj,ΦS,Ψb,Ψd,Ψe,Ψg,Ψh,Ψn,exists_eq_left,exists_eq_left',exists_const,Ψs,Ψo,Ψp,hP,h4_22,h4_0,h4_7,h4_8,h4_9]
          refine hK13 _ _ ?_
          try clear hK13 K13
          refine SX.ret ?_
          simp only [Φi, Φu, Φn, Φo, Φx, Φw, Φa, if_true, if_false, reduceIte, retQ_ret]
          try simp only [res0,res1,res2,res3,ΦU,Φy,Φz,ΦI,ev,Φi,Φu,Φn,Φo,Φx,Φw,Φa,Φp,reduceIte,reduceCtorEq,if_true,if_false,Φq,Φk,Φb,Φc,true_and,and_true,false_and,and_false,true_implies,forall_const,false_implies,ne_eq,not_true_eq_false,not_false_eq_true,decide_true,decide_false,Φv,and_self,true_or,or_true,dite_true,dite_false,Φe,Φd,decide_eq_true_eq,decide_eq_false_iff_not,Φf,Φh,Φg,Φj,beq_self_eq_true,Φr,Φs,Φt,Φl,Φm,eq_self,hP,h4_22,h4_0,h4_7,h4_8,h4_9]
          refine ⟨_, L, (by first | exact Less.refl _ | exact Less.drop _ _ | exact Less.drops (Less.drop _ _) | exact Less.drops (Less.drops (Less.drop _ _)) | exact Less.drops (Less.drops (Less.drops (Less.drop _ _))) | exact Less.drops (Less.drops (Less.drops (Less.drops (Less.drop _ _))))), rfl, ?_, rfl⟩
          rw [show bs.any (inB n) = true from List.any_eq_true.2 ⟨b, List.mem_of_getElem? hb, by rw [inB, decide_eq_true hc22]⟩]
        · clear hX12 hY12 X12 Y12
          refine SX.skip ?_
          simp only [Φi, Φu, Φn, Φo, Φx, Φw, Φa, if_true, if_false, reduceIte]
          refine hK8 _ _ ?_
          try clear hK8 K8
          refine SX.region ?_
          simp (maxSteps := 1000000) only [ΦU,Φy,Φz,ΦI,ev,Φi,Φu,Φn,Φo,Φx,Φw,Φa,Φp,reduceIte,reduceCtorEq,if_true,if_false,Φq,Φk,Φb,Φc,true_and,and_true,false_and,and_false,true_implies,forall_const,false_implies,ne_eq,not_true_eq_false,not_false_eq_true,decide_true,decide_false,Φv,and_self,true_or,or_true,dite_true,dite_false,Φe,Φd,decide_eq_true_eq,decide_eq_false_iff_not,Φf,Φh,Φg,Φj,beq_self_eq_true,Φr,Φs,Φt,Φl,Φm,eq_self,Ψx,Ψl,Ψm,VCops,VQops,Ψv,putVC,VC,VQ,ΦV,ΦW,ΦN,ΦO,ΦE,ΦF,ΦJ,List.getElem?_cons_zero,List.getElem?_cons_succ,List.getElem?_nil,List.getElem?_toArray,Ψc,Ψi,ΦP,ΦA,ΦB,ΦT,ΦM,ΦX,ΦK,ΦQ,ΦR,ΦY,ΦG,ΦH,ΦZ,ΦC,ΦD,Ψa,ΦL,Ψj,ΦS,Ψb,Ψd,Ψe,Ψg,Ψh,Ψn,exists_eq_left,exists_eq_left',exists_const,Ψs,Ψo,Ψp,bin_add,bin_adds,hP,h4_22,h4_0,h4_7,h4_8,h4_9]
          refine hK4 (i + 1) _ (L) _ (by first | exact Less.refl _ | exact Less.drop _ _ | exact Less.drops (Less.drop _ _) | exact Less.drops (Less.drops (Less.drop _ _)) | exact Less.drops (Less.drops (Less.drops (Less.drop _ _))) | exact Less.drops (Less.drops (Less.drops (Less.drops (Less.drop _ _))))) ?_ ?_
          · try dsimp only
            refine ⟨?_, ?_, ?_, ?_, ?_, ?_⟩
            · simp (maxSteps := 1000000) only [ΦU,Φy,Φz,ΦI,ev,Φi,Φu,Φn,Φo,Φx,Φw,Φa,Φp,reduceIte,reduceCtorEq,if_true,if_false,Φq,Φk,Φb,Φc,true_and,and_true,false_and,and_false,true_implies,forall_const,false_implies,ne_eq,not_true_eq_false,not_false_eq_true,decide_true,decide_false,Φv,and_self,true_or,or_true,dite_true,dite_false,Φe,Φd,decide_eq_true_eq,decide_eq_false_iff_not,Φf,Φh,Φg,Φj,beq_self_eq_true,Φr,Φs,Φt,Φl,Φm,eq_self,hP,h4_22,h4_0,h4_7,h4_8,h4_9]
              rw [inc64 (by omega)]
            · simp (maxSteps := 1000000) only [ΦU,Φy,Φz,ΦI,ev,Φi,Φu,Φn,Φo,Φx,Φw,Φa,Φp,reduceIte,reduceCtorEq,if_true,if_false,Φq,Φk,Φb,Φc,true_and,and_true,false_and,and_false,true_implies,forall_const,false_implies,ne_eq,not_true_eq_false,not_false_eq_true,decide_true,decide_false,Φv,and_self,true_or,or_true,dite_true,dite_false,Φe,Φd,decide_eq_true_eq,decide_eq_false_iff_not,Φf,Φh,Φg,Φj,beq_self_eq_true,Φr,Φs,Φt,Φl,Φm,eq_self,hP,h4_22,h4_0,h4_7,h4_8,h4_9]
            · simp (maxSteps := 1000000) only [ΦU,Φy,Φz,ΦI,ev,Φi,Φu,Φn,Φo,Φx,Φw,Φa,Φp,reduceIte,reduceCtorEq,if_true,if_false,Φq,Φk,Φb,Φc,true_and,and_true,false_and,and_false,true_implies,forall_const,false_implies,ne_eq,not_true_eq_false,not_false_eq_true,decide_true,decide_false,Φv,and_self,true_or,or_true,dite_true,dite_false,Φe,Φd,decide_eq_true_eq,decide_eq_false_iff_not,Φf,Φh,Φg,Φj,beq_self_eq_true,Φr,Φs,Φt,Φl,Φm,eq_self,hP,h4_22,h4_0,h4_7,h4_8,h4_9]
            · simp (maxSteps := 1000000) only [ΦU,Φy,Φz,ΦI,ev,Φi,Φu,Φn,Φo,Φx,Φw,Φa,Φp,reduceIte,reduceCtorEq,if_true,if_false,Φq,Φk,Φb,Φc,true_and,and_true,false_and,and_false,true_implies,forall_const,false_implies,ne_eq,not_true_eq_false,not_false_eq_true,decide_true,decide_false,Φv,and_self,true_or,or_true,dite_true,dite_false,Φe,Φd,decide_eq_true_eq,decide_eq_false_iff_not,Φf,Φh,Φg,Φj,beq_self_eq_true,Φr,Φs,Φt,Φl,Φm,eq_self,hP,h4_22,h4_0,h4_7,h4_8,h4_9]
            · rfl
            · refine ⟨by omega, ?_⟩
              rw [take_any hb, hno, inB, decide_eq_false hc22]; rfl
          · (try dsimp only); omega
    · clear hX7 hY7 X7 Y7
      refine SX.exit ?_
      simp only [Φi, Φu, Φn, Φo, Φx, Φw, Φa, if_true, if_false, reduceIte]
      refine hK2 _ _ ?_
      try clear hK2 K2
      refine SX.seq_k fun K14 hK14 => ?_
      refine SX.region ?_
      simp (maxSteps := 1000000) only [ΦU,Φy,Φz,ΦI,ev,Φi,Φu,Φn,Φo,Φx,Φw,Φa,Φp,reduceIte,reduceCtorEq,if_true,if_false,Φq,Φk,Φb,Φc,true_and,and_true,false_and,and_false,true_implies,forall_const,false_implies,ne_eq,not_true_eq_false,not_false_eq_true,decide_true,decide_false,Φv,and_self,true_or,or_true,dite_true,dite_false,Φe,Φd,decide_eq_true_eq,decide_eq_false_iff_not,Φf,Φh,Φg,Φj,beq_self_eq_true,Φr,Φs,Φt,Φl,Φm,eq_self,Ψx,Ψl,Ψm,VCops,VQops,Ψv,putVC,VC,VQ,ΦV,ΦW,ΦN,ΦO,ΦE,ΦF,ΦJ,List.getElem?_cons_zero,List.getElem?_cons_succ,List.getElem?_nil,List.getElem?_toArray,Ψc,Ψi,ΦP,ΦA,ΦB,ΦT,ΦM,ΦX,ΦK,ΦQ,ΦR,ΦY,ΦG,ΦH,ΦZ,ΦC,ΦD,Ψa,ΦL,Ψj,ΦS,Ψb,Ψd,Ψe,Ψg,Ψh,Ψn,exists_eq_left,exists_eq_left',exists_const,Ψs,Ψo,Ψp,hP,h2_9,h2_0,h2_7,h2_8]
      refine hK14 _ _ ?_
      try clear hK14 K14
      refine SX.ret ?_
      simp only [Φi, Φu, Φn, Φo, Φx, Φw, Φa, if_true, if_false, reduceIte, retQ_ret]
      try simp only [res0,res1,res2,res3,ΦU,Φy,Φz,ΦI,ev,Φi,Φu,Φn,Φo,Φx,Φw,Φa,Φp,reduceIte,reduceCtorEq,if_true,if_false,Φq,Φk,Φb,Φc,true_and,and_true,false_and,and_false,true_implies,forall_const,false_implies,ne_eq,not_true_eq_false,not_false_eq_true,decide_true,decide_false,Φv,and_self,true_or,or_true,dite_true,dite_false,Φe,Φd,decide_eq_true_eq,decide_eq_false_iff_not,Φf,Φh,Φg,Φj,beq_self_eq_true,Φr,Φs,Φt,Φl,Φm,eq_self,hP,h2_9,h2_0,h2_7,h2_8]
      refine ⟨_, L, (by first | exact Less.refl _ | exact Less.drop _ _ | exact Less.drops (Less.drop _ _) | exact Less.drops (Less.drops (Less.drop _ _)) | exact Less.drops (Less.drops (Less.drops (Less.drop _ _))) | exact Less.drops (Less.drops (Less.drops (Less.drops (Less.drop _ _))))), rfl, ?_, rfl⟩
      rw [List.take_of_length_le (by omega)] at hno
      rw [hno]

abbrev SH (Γ : Ctx) : Prop := Pairs Γ ⟨0, 0, none⟩ [(80, 207)]
theorem any1 (n a b : Int) : [(a, b)].any (inB n) = decide (a ≤ n ∧ n ≤ b) := by simp [inB]
/-- May a raster be so? -/
def okB (l c g : Int) : Bool := decide (0 ≤ l ∧ l < 262 ∧ 0 ≤ c ∧ c < 14 ∧ 0 ≤ g ∧ g ≤ 8 ∧ (g = 0 ∨ 80 ≤ l ∧ l ≤ 207 ∧ g ≤ c - 2))
def chk (l c g : Int) : Int := if okB l c g = true then 0 else 50
def wB (l c : Int) (o : Bool) (g : Int) : Bool := okB l c g && o && decide (80 ≤ l ∧ l ≤ 207) && decide (2 ≤ c) && decide (g < 8)
def tB (l c : Int) (o : Bool) (g code : Int) (rd : Bool) : Bool := wB l c o g && decide (code = 2) && rd
def onB (o : Bool) (port : Int) (rd wr : Bool) (m : Int) : Bool := if m = 2 ∨ m = 3 then false else if (decide (port = 1) && (rd || wr)) = true then wr else o
abbrev Ras := Int × Int × Bool × Int
abbrev rv (x : Ras) : Value := .agg #[.int .i64 x.1, .int .i64 x.2.1, .bool x.2.2.1, .int .i64 x.2.2.2]
def step (l c : Int) (o : Bool) (g code port : Int) (rd wr : Bool) (m : Int) : Ras :=
  if okB l c g = true ∧ m ≤ 3 then
    if c + 1 = 14 then (if l + 1 = 262 then 0 else l + 1, 0, onB o port rd wr m, 0)
    else (l, c + 1, onB o port rd wr m, if tB l c o g code rd = true then g + 1 else g)
  else (0, 0, false, 0)
theorem chk_eq (l c g : Int) : decide (chk l c g = 0) = okB l c g := by unfold chk; cases okB l c g <;> rfl
theorem chk_zero (l c g : Int) : (chk l c g = 0) = (okB l c g = true) := by unfold chk; cases okB l c g <;> simp
set_option maxHeartbeats 1000000 in
set_option maxRecDepth 100000 in
theorem Check_spec {Γ : Ctx} (hP : Γ.P = Tryd.prog) {L : Hp} {l c g : Int} {o : Bool} (S : SH Γ) :
    SCall Γ 27 #[(.agg #[.int .i64 l, .int .i64 c, .bool o, .int .i64 g])] L (fun v L' => v = .int .i64 (chk l c g) ∧ L' = L) := by
  refine SCall.enter (n := 42) (res1 2) (hP ▸ Tryd.func27) rfl rfl (by simp) (res1_ok rfl) ?_
  refine SX.seq_k fun K1 hK1 => ?_
  refine SX.region ?_
  simp (maxSteps := 1000000) only [ΦU,Φy,Φz,ΦI,ev,Φi,Φu,Φn,Φo,Φx,Φw,Φa,Φp,reduceIte,reduceCtorEq,if_true,if_false,Φq,Φk,Φb,Φc,true_and,and_true,false_and,and_false,true_implies,forall_const,false_implies,ne_eq,not_true_eq_false,not_false_eq_true,decide_true,decide_false,Φv,and_self,true_or,or_true,dite_true,dite_false,Φe,Φd,decide_eq_true_eq,decide_eq_false_iff_not,Φf,Φh,Φg,Φj,beq_self_eq_true,Φr,Φs,Φt,Φl,Φm,eq_self,Ψx,Ψl,Ψm,VCops,VQops,Ψv,putVC,VC,VQ,ΦV,ΦW,ΦN,ΦO,ΦE,ΦF,ΦJ,List.getElem?_cons_zero,List.getElem?_cons_succ,List.getElem?_nil,List.getElem?_toArray,Ψc,Ψi,ΦP,ΦA,ΦB,ΦT,ΦM,ΦX,ΦK,ΦQ,ΦR,ΦY,ΦG,ΦH,ΦZ,ΦC,ΦD,Ψa,ΦL,Ψj,ΦS,Ψb,Ψd,Ψe,Ψg,Ψh,Ψn,exists_eq_left,exists_eq_left',exists_const,Ψs,Ψo,Ψp,cells_int,cells_bool,ΨB,Ψz,ΨD,cells_agg,oneB_nil,oneB_cons,one_int,one_bool,one_string,ΨE,one_slice,one_map,one_func,ΨF,ΨC,one_iface,cells_map,cells_func,ΨA,Ψy,ΨG,T.elA_24,T.lay_24,T.szA_24,T.zr_24,Tryd.underlying24,hP]
  intro bx
  refine hK1 _ _ ?_
  try clear hK1 K1
  refine SX.seq_k fun K2 hK2 => ?_
  refine SX.region ?_
  simp (maxSteps := 1000000) only [ΦU,Φy,Φz,ΦI,ev,Φi,Φu,Φn,Φo,Φx,Φw,Φa,Φp,reduceIte,reduceCtorEq,if_true,if_false,Φq,Φk,Φb,Φc,true_and,and_true,false_and,and_false,true_implies,forall_const,false_implies,ne_eq,not_true_eq_false,not_false_eq_true,decide_true,decide_false,Φv,and_self,true_or,or_true,dite_true,dite_false,Φe,Φd,decide_eq_true_eq,decide_eq_false_iff_not,Φf,Φh,Φg,Φj,beq_self_eq_true,Φr,Φs,Φt,Φl,Φm,eq_self,Ψx,Ψl,Ψm,VCops,VQops,Ψv,putVC,VC,VQ,ΦV,ΦW,ΦN,ΦO,ΦE,ΦF,ΦJ,List.getElem?_cons_zero,List.getElem?_cons_succ,List.getElem?_nil,List.getElem?_toArray,Ψc,Ψi,ΦP,ΦA,ΦB,ΦT,ΦM,ΦX,ΦK,ΦQ,ΦR,ΦY,ΦG,ΦH,ΦZ,ΦC,ΦD,Ψa,ΦL,Ψj,ΦS,Ψb,Ψd,Ψe,Ψg,Ψh,Ψn,exists_eq_left,exists_eq_left',exists_const,Ψs,Ψo,Ψp,hP]
  refine hK2 _ _ ?_
  try clear hK2 K2
  refine SX.live [1, 3] (fun T1 hT1 => ?_)
  simp only [ΨH,forall_mem_nil',ΦU,Φy,Φz,ΦI,ev,Φi,Φu,Φn,Φo,Φx,Φw,Φa,Φp,reduceIte,reduceCtorEq,if_true,if_false,Φq,Φk,Φb,Φc,true_and,and_true,false_and,and_false,true_implies,forall_const,false_implies,ne_eq,not_true_eq_false,not_false_eq_true,decide_true,decide_false,Φv,and_self,true_or,or_true,dite_true,dite_false,Φe,Φd,decide_eq_true_eq,decide_eq_false_iff_not,Φf,Φh,Φg,Φj,beq_self_eq_true,Φr,Φs,Φt,Φl,Φm,eq_self,hP] at hT1
  obtain ⟨h1_1, h1_3⟩ := hT1
  refine SX.join (fun (ss : (Int)) T L' => (fun (k : Int) => T 3 = .int .i64 k ∧ T 1 = T1 1 ∧ L' = some (bx, .cells #[.int .i64 l, .int .i64 c, .bool o, .int .i64 g] 24 (0, 0)) :: L ∧ ((80 ≤ l ∧ l ≤ 207 → k = (if 8 < (if 0 > IntKind.i64.wrap (c - 2) then 0 else IntKind.i64.wrap (c - 2)) then 8 else (if 0 > IntKind.i64.wrap (c - 2) then 0 else IntKind.i64.wrap (c - 2)))) ∧ (¬ (80 ≤ l ∧ l ≤ 207) → k = 0))) (ss)) (fun K3 hK3 => ?_) ?_
  · simp only [h1_1] at hK3
    refine SX.seq_k fun K4 hK4 => ?_
    refine SX.quiet_x (hP ▸ T.mixed) (by kernel_rfl) ?_
    refine QX.live [1, 3] (fun T2 hT2 => ?_)
    simp only [ΨH,forall_mem_nil',ΦU,Φy,Φz,ΦI,ev,Φi,Φu,Φn,Φo,Φx,Φw,Φa,Φp,reduceIte,reduceCtorEq,if_true,if_false,Φq,Φk,Φb,Φc,true_and,and_true,false_and,and_false,true_implies,forall_const,false_implies,ne_eq,not_true_eq_false,not_false_eq_true,decide_true,decide_false,Φv,and_self,true_or,or_true,dite_true,dite_false,Φe,Φd,decide_eq_true_eq,decide_eq_false_iff_not,Φf,Φh,Φg,Φj,beq_self_eq_true,Φr,Φs,Φt,Φl,Φm,eq_self,hP,h1_1,h1_3] at hT2
    obtain ⟨h2_1, h2_3⟩ := hT2
    clear h1_1 h1_3 T1
    refine QX.join 4 (fun (ss : Unit) T L' => T 7 = .bool (decide (80 ≤ l ∧ l ≤ 207)) ∧ T 1 = T2 1 ∧ T 3 = T2 3 ∧ L' = some (bx, .cells #[.int .i64 l, .int .i64 c, .bool o, .int .i64 g] 24 (0, 0)) :: L ∧ (True)) (fun K5 hK5 => ?_) ?_
    · simp only [h2_1, h2_3] at hK5
      simp (maxSteps := 1000000) only [ΦU,Φy,Φz,ΦI,ev,Φi,Φu,Φn,Φo,Φx,Φw,Φa,Φp,reduceIte,reduceCtorEq,if_true,if_false,Φq,Φk,Φb,Φc,true_and,and_true,false_and,and_false,true_implies,forall_const,false_implies,ne_eq,not_true_eq_false,not_false_eq_true,decide_true,decide_false,Φv,and_self,true_or,or_true,dite_true,dite_false,Φe,Φd,decide_eq_true_eq,decide_eq_false_iff_not,Φf,Φh,Φg,Φj,beq_self_eq_true,Φr,Φs,Φt,Φl,Φm,eq_self,Ψx,Ψl,Ψm,VCops,VQops,Ψv,putVC,VC,VQ,ΦV,ΦW,ΦN,ΦO,ΦE,ΦF,ΦJ,List.getElem?_cons_zero,List.getElem?_cons_succ,List.getElem?_nil,List.getElem?_toArray,Ψc,Ψi,ΦP,ΦA,ΦB,ΦT,ΦM,ΦX,ΦK,ΦQ,ΦR,ΦY,ΦG,ΦH,ΦZ,ΦC,ΦD,Ψa,ΦL,Ψj,ΦS,Ψb,Ψd,Ψe,Ψg,Ψh,Ψn,exists_eq_left,exists_eq_left',exists_const,Ψs,Ψo,Ψp,fa_ptr,Ψu,Ψq,Ψw,Ψf,Ψr,Ψt,Ψk,T.elA_24,T.lay_24,T.szA_24,T.zr_24,Tryd.underlying24,ld_ptr,loadVC,loadN,T.szA_3,T.zr_3,Tryd.underlying3,sliceVC,optI,T.elA_90,T.lay_90,T.szA_90,T.zr_90,Tryd.underlying90,qcall_f,call_f,len_slice,len_str,cap_slice,min_int,max_int,T.elS_88,T.szA_88,T.zr_88,Tryd.underlying88,T.callable_47,hP,h2_1,h2_3,any1]
      repeat' (first | refine iteB (fun hg => ?_) (fun hg => ?_) | refine iteI (fun hg => ?_) (fun hg => ?_) | ((first | refine ⟨_, within_spec (bs := [(80, 207)]) (a := ⟨0, 0, none⟩) hP S (by decide), ?_⟩ | refine ⟨by omega, ?_⟩ | refine ⟨_, Cell.at 0 rfl rfl, ?_⟩ | fail); try simp (maxSteps := 1000000) only [ΦU,Φy,Φz,ΦI,ev,Φi,Φu,Φn,Φo,Φx,Φw,Φa,Φp,reduceIte,reduceCtorEq,if_true,if_false,Φq,Φk,Φb,Φc,true_and,and_true,false_and,and_false,true_implies,forall_const,false_implies,ne_eq,not_true_eq_false,not_false_eq_true,decide_true,decide_false,Φv,and_self,true_or,or_true,dite_true,dite_false,Φe,Φd,decide_eq_true_eq,decide_eq_false_iff_not,Φf,Φh,Φg,Φj,beq_self_eq_true,Φr,Φs,Φt,Φl,Φm,eq_self,Ψx,Ψl,Ψm,VCops,VQops,Ψv,putVC,VC,VQ,ΦV,ΦW,ΦN,ΦO,ΦE,ΦF,ΦJ,List.getElem?_cons_zero,List.getElem?_cons_succ,List.getElem?_nil,List.getElem?_toArray,Ψc,Ψi,ΦP,ΦA,ΦB,ΦT,ΦM,ΦX,ΦK,ΦQ,ΦR,ΦY,ΦG,ΦH,ΦZ,ΦC,ΦD,Ψa,ΦL,Ψj,ΦS,Ψb,Ψd,Ψe,Ψg,Ψh,Ψn,exists_eq_left,exists_eq_left',exists_const,Ψs,Ψo,Ψp,fa_ptr,Ψu,Ψq,Ψw,Ψf,Ψr,Ψt,Ψk,T.elA_24,T.lay_24,T.szA_24,T.zr_24,Tryd.underlying24,ld_ptr,loadVC,loadN,T.szA_3,T.zr_3,Tryd.underlying3,sliceVC,optI,T.elA_90,T.lay_90,T.szA_90,T.zr_90,Tryd.underlying90,qcall_f,call_f,len_slice,len_str,cap_slice,min_int,max_int,T.elS_88,T.szA_88,T.zr_88,Tryd.underlying88,T.callable_47,hP,h2_1,h2_3,any1]) | fail)
      all_goals
        refine hK5 () _ (some (bx, .cells #[.int .i64 l, .int .i64 c, .bool o, .int .i64 g] 24 (0, 0)) :: L) _ (by rfl) ?_
        try dsimp only
        refine ⟨?_, ?_, ?_, ?_, ?_⟩
        · simp (maxSteps := 1000000) only [ΦU,Φy,Φz,ΦI,ev,Φi,Φu,Φn,Φo,Φx,Φw,Φa,Φp,reduceIte,reduceCtorEq,if_true,if_false,Φq,Φk,Φb,Φc,true_and,and_true,false_and,and_false,true_implies,forall_const,false_implies,ne_eq,not_true_eq_false,not_false_eq_true,decide_true,decide_false,Φv,and_self,true_or,or_true,dite_true,dite_false,Φe,Φd,decide_eq_true_eq,decide_eq_false_iff_not,Φf,Φh,Φg,Φj,beq_self_eq_true,Φr,Φs,Φt,Φl,Φm,eq_self,hP,h2_1,h2_3]
          first | done | exact congrArg _ (decide_eq_decide.2 (by omega)) | exact congrArg _ (decide_eq_true (by omega)).symm | exact congrArg _ (decide_eq_false (by omega)).symm
        · simp (maxSteps := 1000000) only [ΦU,Φy,Φz,ΦI,ev,Φi,Φu,Φn,Φo,Φx,Φw,Φa,Φp,reduceIte,reduceCtorEq,if_true,if_false,Φq,Φk,Φb,Φc,true_and,and_true,false_and,and_false,true_implies,forall_const,false_implies,ne_eq,not_true_eq_false,not_false_eq_true,decide_true,decide_false,Φv,and_self,true_or,or_true,dite_true,dite_false,Φe,Φd,decide_eq_true_eq,decide_eq_false_iff_not,Φf,Φh,Φg,Φj,beq_self_eq_true,Φr,Φs,Φt,Φl,Φm,eq_self,hP,h2_1,h2_3]
        · simp (maxSteps := 1000000) only [ΦU,Φy,Φz,ΦI,ev,Φi,Φu,Φn,Φo,Φx,Φw,Φa,Φp,reduceIte,reduceCtorEq,if_true,if_false,Φq,Φk,Φb,Φc,true_and,and_true,false_and,and_false,true_implies,forall_const,false_implies,ne_eq,not_true_eq_false,not_false_eq_true,decide_true,decide_false,Φv,and_self,true_or,or_true,dite_true,dite_false,Φe,Φd,decide_eq_true_eq,decide_eq_false_iff_not,Φf,Φh,Φg,Φj,beq_self_eq_true,Φr,Φs,Φt,Φl,Φm,eq_self,hP,h2_1,h2_3]
        · rfl
        · trivial
    · intro ss T3 L3 hE3 hI
      simp only [h2_1, h2_3] at hI 
      obtain ⟨h3_7, h3_1, h3_3, hL3, hinv⟩ := hI
      replace hL3 := hL3.symm
      subst hL3
      clear h2_1 h2_3 T2
      clear hE3
      refine QX.done ?_
      simp (maxSteps := 1000000) only [ΦU,Φy,Φz,ΦI,ev,Φi,Φu,Φn,Φo,Φx,Φw,Φa,Φp,reduceIte,reduceCtorEq,if_true,if_false,Φq,Φk,Φb,Φc,true_and,and_true,false_and,and_false,true_implies,forall_const,false_implies,ne_eq,not_true_eq_false,not_false_eq_true,decide_true,decide_false,Φv,and_self,true_or,or_true,dite_true,dite_false,Φe,Φd,decide_eq_true_eq,decide_eq_false_iff_not,Φf,Φh,Φg,Φj,beq_self_eq_true,Φr,Φs,Φt,Φl,Φm,eq_self,Ψx,Ψl,Ψm,VCops,VQops,Ψv,putVC,VC,VQ,ΦV,ΦW,ΦN,ΦO,ΦE,ΦF,ΦJ,List.getElem?_cons_zero,List.getElem?_cons_succ,List.getElem?_nil,List.getElem?_toArray,Ψc,Ψi,ΦP,ΦA,ΦB,ΦT,ΦM,ΦX,ΦK,ΦQ,ΦR,ΦY,ΦG,ΦH,ΦZ,ΦC,ΦD,Ψa,ΦL,Ψj,ΦS,Ψb,Ψd,Ψe,Ψg,Ψh,Ψn,exists_eq_left,exists_eq_left',exists_const,Ψs,Ψo,Ψp,hP,h3_7,h3_1,h3_3]
      refine hK4 _ _ ?_
      try clear hK4 K4
      refine SX.cond_k fun X6 Y6 hX6 hY6 => ?_
      simp (maxSteps := 1000000) only [ΦU,Φy,Φz,ΦI,ev,Φi,Φu,Φn,Φo,Φx,Φw,Φa,Φp,reduceIte,reduceCtorEq,if_true,if_false,Φq,Φk,Φb,Φc,true_and,and_true,false_and,and_false,true_implies,forall_const,false_implies,ne_eq,not_true_eq_false,not_false_eq_true,decide_true,decide_false,Φv,and_self,true_or,or_true,dite_true,dite_false,Φe,Φd,decide_eq_true_eq,decide_eq_false_iff_not,Φf,Φh,Φg,Φj,beq_self_eq_true,Φr,Φs,Φt,Φl,Φm,eq_self,hP,h3_7,h3_1,h3_3,condVC]
      refine ⟨fun hc7 => hX6 ?_, fun hc7 => hY6 ?_⟩
      · clear hX6 hY6 X6 Y6
        refine SX.region_x ?_
        refine RX.live [1] (fun T4 hT4 => ?_)
        simp only [ΨH,forall_mem_nil',ΦU,Φy,Φz,ΦI,ev,Φi,Φu,Φn,Φo,Φx,Φw,Φa,Φp,reduceIte,reduceCtorEq,if_true,if_false,Φq,Φk,Φb,Φc,true_and,and_true,false_and,and_false,true_implies,forall_const,false_implies,ne_eq,not_true_eq_false,not_false_eq_true,decide_true,decide_false,Φv,and_self,true_or,or_true,dite_true,dite_false,Φe,Φd,decide_eq_true_eq,decide_eq_false_iff_not,Φf,Φh,Φg,Φj,beq_self_eq_true,Φr,Φs,Φt,Φl,Φm,eq_self,hP,h3_7,h3_1,h3_3] at hT4
        have h4_1 := hT4; clear hT4
        clear h3_7 h3_1 h3_3 T3
        refine RX.join 6 (fun (ss : Unit) T L' => T 3 = .int .i64 (if 8 < (if 0 > IntKind.i64.wrap (c - 2) then 0 else IntKind.i64.wrap (c - 2)) then 8 else (if 0 > IntKind.i64.wrap (c - 2) then 0 else IntKind.i64.wrap (c - 2))) ∧ T 1 = T4 1 ∧ L' = some (bx, .cells #[.int .i64 l, .int .i64 c, .bool o, .int .i64 g] 24 (0, 0)) :: L ∧ (True)) (fun K7 hK7 => ?_) ?_
        · simp only [h4_1] at hK7
          simp (maxSteps := 1000000) only [ΦU,Φy,Φz,ΦI,ev,Φi,Φu,Φn,Φo,Φx,Φw,Φa,Φp,reduceIte,reduceCtorEq,if_true,if_false,Φq,Φk,Φb,Φc,true_and,and_true,false_and,and_false,true_implies,forall_const,false_implies,ne_eq,not_true_eq_false,not_false_eq_true,decide_true,decide_false,Φv,and_self,true_or,or_true,dite_true,dite_false,Φe,Φd,decide_eq_true_eq,decide_eq_false_iff_not,Φf,Φh,Φg,Φj,beq_self_eq_true,Φr,Φs,Φt,Φl,Φm,eq_self,Ψx,Ψl,Ψm,VCops,VQops,Ψv,putVC,VC,VQ,ΦV,ΦW,ΦN,ΦO,ΦE,ΦF,ΦJ,List.getElem?_cons_zero,List.getElem?_cons_succ,List.getElem?_nil,List.getElem?_toArray,Ψc,Ψi,ΦP,ΦA,ΦB,ΦT,ΦM,ΦX,ΦK,ΦQ,ΦR,ΦY,ΦG,ΦH,ΦZ,ΦC,ΦD,Ψa,ΦL,Ψj,ΦS,Ψb,Ψd,Ψe,Ψg,Ψh,Ψn,exists_eq_left,exists_eq_left',exists_const,Ψs,Ψo,Ψp,fa_ptr,Ψu,Ψq,Ψw,Ψf,Ψr,Ψt,Ψk,T.elA_24,T.lay_24,T.szA_24,T.zr_24,Tryd.underlying24,ld_ptr,loadVC,loadN,T.szA_3,T.zr_3,Tryd.underlying3,bin_sub,qcall_f,call_f,len_slice,len_str,cap_slice,min_int,max_int,hP,h4_1]
          repeat' (first | refine iteB (fun hg => ?_) (fun hg => ?_) | refine iteI (fun hg => ?_) (fun hg => ?_) | ((first | refine ⟨by omega, ?_⟩ | refine ⟨_, Cell.at 0 rfl rfl, ?_⟩ | fail); try simp (maxSteps := 1000000) only [ΦU,Φy,Φz,ΦI,ev,Φi,Φu,Φn,Φo,Φx,Φw,Φa,Φp,reduceIte,reduceCtorEq,if_true,if_false,Φq,Φk,Φb,Φc,true_and,and_true,false_and,and_false,true_implies,forall_const,false_implies,ne_eq,not_true_eq_false,not_false_eq_true,decide_true,decide_false,Φv,and_self,true_or,or_true,dite_true,dite_false,Φe,Φd,decide_eq_true_eq,decide_eq_false_iff_not,Φf,Φh,Φg,Φj,beq_self_eq_true,Φr,Φs,Φt,Φl,Φm,eq_self,Ψx,Ψl,Ψm,VCops,VQops,Ψv,putVC,VC,VQ,ΦV,ΦW,ΦN,ΦO,ΦE,ΦF,ΦJ,List.getElem?_cons_zero,List.getElem?_cons_succ,List.getElem?_nil,List.getElem?_toArray,Ψc,Ψi,ΦP,ΦA,ΦB,ΦT,ΦM,ΦX,ΦK,ΦQ,ΦR,ΦY,ΦG,ΦH,ΦZ,ΦC,ΦD,Ψa,ΦL,Ψj,ΦS,Ψb,Ψd,Ψe,Ψg,Ψh,Ψn,exists_eq_left,exists_eq_left',exists_const,Ψs,Ψo,Ψp,fa_ptr,Ψu,Ψq,Ψw,Ψf,Ψr,Ψt,Ψk,T.elA_24,T.lay_24,T.szA_24,T.zr_24,Tryd.underlying24,ld_ptr,loadVC,loadN,T.szA_3,T.zr_3,Tryd.underlying3,bin_sub,qcall_f,call_f,len_slice,len_str,cap_slice,min_int,max_int,hP,h4_1]) | fail)
          all_goals
            refine hK7 () _ (some (bx, .cells #[.int .i64 l, .int .i64 c, .bool o, .int .i64 g] 24 (0, 0)) :: L) _ (by first | exact Less.refl _ | exact Less.drop _ _ | exact Less.drops (Less.drop _ _) | exact Less.drops (Less.drops (Less.drop _ _)) | exact Less.drops (Less.drops (Less.drops (Less.drop _ _))) | exact Less.drops (Less.drops (Less.drops (Less.drops (Less.drop _ _))))) ?_
            try dsimp only
            refine ⟨?_, ?_, ?_, ?_⟩
            · simp (maxSteps := 1000000) only [ΦU,Φy,Φz,ΦI,ev,Φi,Φu,Φn,Φo,Φx,Φw,Φa,Φp,reduceIte,reduceCtorEq,if_true,if_false,Φq,Φk,Φb,Φc,true_and,and_true,false_and,and_false,true_implies,forall_const,false_implies,ne_eq,not_true_eq_false,not_false_eq_true,decide_true,decide_false,Φv,and_self,true_or,or_true,dite_true,dite_false,Φe,Φd,decide_eq_true_eq,decide_eq_false_iff_not,Φf,Φh,Φg,Φj,beq_self_eq_true,Φr,Φs,Φt,Φl,Φm,eq_self,hP,h4_1]
              first | done | rfl
            · simp (maxSteps := 1000000) only [ΦU,Φy,Φz,ΦI,ev,Φi,Φu,Φn,Φo,Φx,Φw,Φa,Φp,reduceIte,reduceCtorEq,if_true,if_false,Φq,Φk,Φb,Φc,true_and,and_true,false_and,and_false,true_implies,forall_const,false_implies,ne_eq,not_true_eq_false,not_false_eq_true,decide_true,decide_false,Φv,and_self,true_or,or_true,dite_true,dite_false,Φe,Φd,decide_eq_true_eq,decide_eq_false_iff_not,Φf,Φh,Φg,Φj,beq_self_eq_true,Φr,Φs,Φt,Φl,Φm,eq_self,hP,h4_1]
            · rfl
            · trivial
        · intro ss T5 L5 hI
          simp only [h4_1] at hI 
          obtain ⟨h5_3, h5_1, hL5, hinv⟩ := hI
          replace hL5 := hL5.symm
          subst hL5
          clear h4_1 T4
          refine RX.done ?_
          simp (maxSteps := 1000000) only [ΦU,Φy,Φz,ΦI,ev,Φi,Φu,Φn,Φo,Φx,Φw,Φa,Φp,reduceIte,reduceCtorEq,if_true,if_false,Φq,Φk,Φb,Φc,true_and,and_true,false_and,and_false,true_implies,forall_const,false_implies,ne_eq,not_true_eq_false,not_false_eq_true,decide_true,decide_false,Φv,and_self,true_or,or_true,dite_true,dite_false,Φe,Φd,decide_eq_true_eq,decide_eq_false_iff_not,Φf,Φh,Φg,Φj,beq_self_eq_true,Φr,Φs,Φt,Φl,Φm,eq_self,Ψx,Ψl,Ψm,VCops,VQops,Ψv,putVC,VC,VQ,ΦV,ΦW,ΦN,ΦO,ΦE,ΦF,ΦJ,List.getElem?_cons_zero,List.getElem?_cons_succ,List.getElem?_nil,List.getElem?_toArray,Ψc,Ψi,ΦP,ΦA,ΦB,ΦT,ΦM,ΦX,ΦK,ΦQ,ΦR,ΦY,ΦG,ΦH,ΦZ,ΦC,ΦD,Ψa,ΦL,Ψj,ΦS,Ψb,Ψd,Ψe,Ψg,Ψh,Ψn,exists_eq_left,exists_eq_left',exists_const,Ψs,Ψo,Ψp,hP,h5_3,h5_1]
          refine hK3 (if 8 < (if 0 > IntKind.i64.wrap (c - 2) then 0 else IntKind.i64.wrap (c - 2)) then 8 else (if 0 > IntKind.i64.wrap (c - 2) then 0 else IntKind.i64.wrap (c - 2))) _ (some (bx, .cells #[.int .i64 l, .int .i64 c, .bool o, .int .i64 g] 24 (0, 0)) :: L) _ (by first | exact Less.refl _ | exact Less.drop _ _ | exact Less.drops (Less.drop _ _) | exact Less.drops (Less.drops (Less.drop _ _)) | exact Less.drops (Less.drops (Less.drops (Less.drop _ _))) | exact Less.drops (Less.drops (Less.drops (Less.drops (Less.drop _ _))))) ?_
          try dsimp only
          refine ⟨?_, ?_, ?_, ?_⟩
          · simp (maxSteps := 1000000) only [ΦU,Φy,Φz,ΦI,ev,Φi,Φu,Φn,Φo,Φx,Φw,Φa,Φp,reduceIte,reduceCtorEq,if_true,if_false,Φq,Φk,Φb,Φc,true_and,and_true,false_and,and_false,true_implies,forall_const,false_implies,ne_eq,not_true_eq_false,not_false_eq_true,decide_true,decide_false,Φv,and_self,true_or,or_true,dite_true,dite_false,Φe,Φd,decide_eq_true_eq,decide_eq_false_iff_not,Φf,Φh,Φg,Φj,beq_self_eq_true,Φr,Φs,Φt,Φl,Φm,eq_self,hP,h5_3,h5_1]
            first | done | rfl | skip
          · simp (maxSteps := 1000000) only [ΦU,Φy,Φz,ΦI,ev,Φi,Φu,Φn,Φo,Φx,Φw,Φa,Φp,reduceIte,reduceCtorEq,if_true,if_false,Φq,Φk,Φb,Φc,true_and,and_true,false_and,and_false,true_implies,forall_const,false_implies,ne_eq,not_true_eq_false,not_false_eq_true,decide_true,decide_false,Φv,and_self,true_or,or_true,dite_true,dite_false,Φe,Φd,decide_eq_true_eq,decide_eq_false_iff_not,Φf,Φh,Φg,Φj,beq_self_eq_true,Φr,Φs,Φt,Φl,Φm,eq_self,hP,h5_3,h5_1]
          · rfl
          · exact ⟨fun _ => rfl, fun h => absurd hc7 h⟩
      · clear hX6 hY6 X6 Y6
        refine SX.skip ?_
        simp only [Φi, Φu, Φn, Φo, Φx, Φw, Φa, if_true, if_false, reduceIte]
        refine hK3 0 _ (some (bx, .cells #[.int .i64 l, .int .i64 c, .bool o, .int .i64 g] 24 (0, 0)) :: L) _ (by first | exact Less.refl _ | exact Less.drop _ _ | exact Less.drops (Less.drop _ _) | exact Less.drops (Less.drops (Less.drop _ _)) | exact Less.drops (Less.drops (Less.drops (Less.drop _ _))) | exact Less.drops (Less.drops (Less.drops (Less.drops (Less.drop _ _))))) ?_
        try dsimp only
        refine ⟨?_, ?_, ?_, ?_⟩
        · simp (maxSteps := 1000000) only [ΦU,Φy,Φz,ΦI,ev,Φi,Φu,Φn,Φo,Φx,Φw,Φa,Φp,reduceIte,reduceCtorEq,if_true,if_false,Φq,Φk,Φb,Φc,true_and,and_true,false_and,and_false,true_implies,forall_const,false_implies,ne_eq,not_true_eq_false,not_false_eq_true,decide_true,decide_false,Φv,and_self,true_or,or_true,dite_true,dite_false,Φe,Φd,decide_eq_true_eq,decide_eq_false_iff_not,Φf,Φh,Φg,Φj,beq_self_eq_true,Φr,Φs,Φt,Φl,Φm,eq_self,hP,h3_7,h3_1,h3_3]
          first | done | rfl | skip
        · simp (maxSteps := 1000000) only [ΦU,Φy,Φz,ΦI,ev,Φi,Φu,Φn,Φo,Φx,Φw,Φa,Φp,reduceIte,reduceCtorEq,if_true,if_false,Φq,Φk,Φb,Φc,true_and,and_true,false_and,and_false,true_implies,forall_const,false_implies,ne_eq,not_true_eq_false,not_false_eq_true,decide_true,decide_false,Φv,and_self,true_or,or_true,dite_true,dite_false,Φe,Φd,decide_eq_true_eq,decide_eq_false_iff_not,Φf,Φh,Φg,Φj,beq_self_eq_true,Φr,Φs,Φt,Φl,Φm,eq_self,hP,h3_7,h3_1,h3_3]
        · rfl
        · exact ⟨fun h => absurd h hc7, fun _ => rfl⟩
  · intro k T6 L6 hI
    try dsimp only at hI 
    simp only [h1_1] at hI 
    obtain ⟨h6_3, h6_1, hL6, ⟨hk1, hk2⟩⟩ := hI
    replace hL6 := hL6.symm
    subst hL6
    clear h1_1 h1_3 T1
    refine SX.seq_k fun K8 hK8 => ?_
    refine SX.seq_k fun K9 hK9 => ?_
    refine SX.region_x ?_
    refine RX.live [1, 3] (fun T7 hT7 => ?_)
    simp only [ΨH,forall_mem_nil',ΦU,Φy,Φz,ΦI,ev,Φi,Φu,Φn,Φo,Φx,Φw,Φa,Φp,reduceIte,reduceCtorEq,if_true,if_false,Φq,Φk,Φb,Φc,true_and,and_true,false_and,and_false,true_implies,forall_const,false_implies,ne_eq,not_true_eq_false,not_false_eq_true,decide_true,decide_false,Φv,and_self,true_or,or_true,dite_true,dite_false,Φe,Φd,decide_eq_true_eq,decide_eq_false_iff_not,Φf,Φh,Φg,Φj,beq_self_eq_true,Φr,Φs,Φt,Φl,Φm,eq_self,hP,h6_3,h6_1] at hT7
    obtain ⟨h7_1, h7_3⟩ := hT7
    clear h6_3 h6_1 T6
    have hw : (0 ≤ c ∧ c < 14) → IntKind.i64.wrap (c - 2) = c - 2 := fun h => w64 (by omega)
    refine RX.join 8 (fun (ss : Unit) T L' => T 20 = .bool (decide (l < 0 ∨ 262 ≤ l)) ∧ T 1 = T7 1 ∧ T 3 = T7 3 ∧ L' = some (bx, .cells #[.int .i64 l, .int .i64 c, .bool o, .int .i64 g] 24 (0, 0)) :: L ∧ (True)) (fun K10 hK10 => ?_) ?_
    · simp only [h7_1, h7_3] at hK10
      simp (maxSteps := 1000000) only [ΦU,Φy,Φz,ΦI,ev,Φi,Φu,Φn,Φo,Φx,Φw,Φa,Φp,reduceIte,reduceCtorEq,if_true,if_false,Φq,Φk,Φb,Φc,true_and,and_true,false_and,and_false,true_implies,forall_const,false_implies,ne_eq,not_true_eq_false,not_false_eq_true,decide_true,decide_false,Φv,and_self,true_or,or_true,dite_true,dite_false,Φe,Φd,decide_eq_true_eq,decide_eq_false_iff_not,Φf,Φh,Φg,Φj,beq_self_eq_true,Φr,Φs,Φt,Φl,Φm,eq_self,Ψx,Ψl,Ψm,VCops,VQops,Ψv,putVC,VC,VQ,ΦV,ΦW,ΦN,ΦO,ΦE,ΦF,ΦJ,List.getElem?_cons_zero,List.getElem?_cons_succ,List.getElem?_nil,List.getElem?_toArray,Ψc,Ψi,ΦP,ΦA,ΦB,ΦT,ΦM,ΦX,ΦK,ΦQ,ΦR,ΦY,ΦG,ΦH,ΦZ,ΦC,ΦD,Ψa,ΦL,Ψj,ΦS,Ψb,Ψd,Ψe,Ψg,Ψh,Ψn,exists_eq_left,exists_eq_left',exists_const,Ψs,Ψo,Ψp,fa_ptr,Ψu,Ψq,Ψw,Ψf,Ψr,Ψt,Ψk,T.elA_24,T.lay_24,T.szA_24,T.zr_24,Tryd.underlying24,ld_ptr,loadVC,loadN,T.szA_3,T.zr_3,Tryd.underlying3,bin_lss,bin_geq,pick_bool,hP,h7_1,h7_3]
      repeat' (first | refine iteB (fun hg => ?_) (fun hg => ?_) | refine iteI (fun hg => ?_) (fun hg => ?_) | ((first | refine ⟨by omega, ?_⟩ | refine ⟨_, Cell.at 0 rfl rfl, ?_⟩ | fail); try simp (maxSteps := 1000000) only [ΦU,Φy,Φz,ΦI,ev,Φi,Φu,Φn,Φo,Φx,Φw,Φa,Φp,reduceIte,reduceCtorEq,if_true,if_false,Φq,Φk,Φb,Φc,true_and,and_true,false_and,and_false,true_implies,forall_const,false_implies,ne_eq,not_true_eq_false,not_false_eq_true,decide_true,decide_false,Φv,and_self,true_or,or_true,dite_true,dite_false,Φe,Φd,decide_eq_true_eq,decide_eq_false_iff_not,Φf,Φh,Φg,Φj,beq_self_eq_true,Φr,Φs,Φt,Φl,Φm,eq_self,Ψx,Ψl,Ψm,VCops,VQops,Ψv,putVC,VC,VQ,ΦV,ΦW,ΦN,ΦO,ΦE,ΦF,ΦJ,List.getElem?_cons_zero,List.getElem?_cons_succ,List.getElem?_nil,List.getElem?_toArray,Ψc,Ψi,ΦP,ΦA,ΦB,ΦT,ΦM,ΦX,ΦK,ΦQ,ΦR,ΦY,ΦG,ΦH,ΦZ,ΦC,ΦD,Ψa,ΦL,Ψj,ΦS,Ψb,Ψd,Ψe,Ψg,Ψh,Ψn,exists_eq_left,exists_eq_left',exists_const,Ψs,Ψo,Ψp,fa_ptr,Ψu,Ψq,Ψw,Ψf,Ψr,Ψt,Ψk,T.elA_24,T.lay_24,T.szA_24,T.zr_24,Tryd.underlying24,ld_ptr,loadVC,loadN,T.szA_3,T.zr_3,Tryd.underlying3,bin_lss,bin_geq,pick_bool,hP,h7_1,h7_3]) | fail)
      all_goals
        refine hK10 () _ (some (bx, .cells #[.int .i64 l, .int .i64 c, .bool o, .int .i64 g] 24 (0, 0)) :: L) _ (by first | exact Less.refl _ | exact Less.drop _ _ | exact Less.drops (Less.drop _ _) | exact Less.drops (Less.drops (Less.drop _ _)) | exact Less.drops (Less.drops (Less.drops (Less.drop _ _))) | exact Less.drops (Less.drops (Less.drops (Less.drops (Less.drop _ _))))) ?_
        try dsimp only
        refine ⟨?_, ?_, ?_, ?_, ?_⟩
        · simp (maxSteps := 1000000) only [ΦU,Φy,Φz,ΦI,ev,Φi,Φu,Φn,Φo,Φx,Φw,Φa,Φp,reduceIte,reduceCtorEq,if_true,if_false,Φq,Φk,Φb,Φc,true_and,and_true,false_and,and_false,true_implies,forall_const,false_implies,ne_eq,not_true_eq_false,not_false_eq_true,decide_true,decide_false,Φv,and_self,true_or,or_true,dite_true,dite_false,Φe,Φd,decide_eq_true_eq,decide_eq_false_iff_not,Φf,Φh,Φg,Φj,beq_self_eq_true,Φr,Φs,Φt,Φl,Φm,eq_self,hP,h7_1,h7_3]
          first | done | exact congrArg _ (decide_eq_decide.2 (by omega)) | exact congrArg _ (decide_eq_true (by omega)).symm | exact congrArg _ (decide_eq_false (by omega)).symm
        · simp (maxSteps := 1000000) only [ΦU,Φy,Φz,ΦI,ev,Φi,Φu,Φn,Φo,Φx,Φw,Φa,Φp,reduceIte,reduceCtorEq,if_true,if_false,Φq,Φk,Φb,Φc,true_and,and_true,false_and,and_false,true_implies,forall_const,false_implies,ne_eq,not_true_eq_false,not_false_eq_true,decide_true,decide_false,Φv,and_self,true_or,or_true,dite_true,dite_false,Φe,Φd,decide_eq_true_eq,decide_eq_false_iff_not,Φf,Φh,Φg,Φj,beq_self_eq_true,Φr,Φs,Φt,Φl,Φm,eq_self,hP,h7_1,h7_3]
        · simp (maxSteps := 1000000) only [ΦU,Φy,Φz,ΦI,ev,Φi,Φu,Φn,Φo,Φx,Φw,Φa,Φp,reduceIte,reduceCtorEq,if_true,if_false,Φq,Φk,Φb,Φc,true_and,and_true,false_and,and_false,true_implies,forall_const,false_implies,ne_eq,not_true_eq_false,not_false_eq_true,decide_true,decide_false,Φv,and_self,true_or,or_true,dite_true,dite_false,Φe,Φd,decide_eq_true_eq,decide_eq_false_iff_not,Φf,Φh,Φg,Φj,beq_self_eq_true,Φr,Φs,Φt,Φl,Φm,eq_self,hP,h7_1,h7_3]
        · rfl
        · trivial
    · intro ss T8 L8 hI
      simp only [h7_1, h7_3] at hI 
      obtain ⟨h8_20, h8_1, h8_3, hL8, hinv⟩ := hI
      replace hL8 := hL8.symm
      subst hL8
      clear h7_1 h7_3 T7
      refine RX.live [1, 3, 20] (fun T9 hT9 => ?_)
      simp only [ΨH,forall_mem_nil',ΦU,Φy,Φz,ΦI,ev,Φi,Φu,Φn,Φo,Φx,Φw,Φa,Φp,reduceIte,reduceCtorEq,if_true,if_false,Φq,Φk,Φb,Φc,true_and,and_true,false_and,and_false,true_implies,forall_const,false_implies,ne_eq,not_true_eq_false,not_false_eq_true,decide_true,decide_false,Φv,and_self,true_or,or_true,dite_true,dite_false,Φe,Φd,decide_eq_true_eq,decide_eq_false_iff_not,Φf,Φh,Φg,Φj,beq_self_eq_true,Φr,Φs,Φt,Φl,Φm,eq_self,hP,h8_20,h8_1,h8_3] at hT9
      obtain ⟨h9_1, h9_3, h9_20⟩ := hT9
      clear h8_20 h8_1 h8_3 T8
      refine RX.join 5 (fun (ss : Unit) T L' => T 25 = .bool (decide (l < 0 ∨ 262 ≤ l ∨ c < 0)) ∧ T 1 = T9 1 ∧ T 3 = T9 3 ∧ L' = some (bx, .cells #[.int .i64 l, .int .i64 c, .bool o, .int .i64 g] 24 (0, 0)) :: L ∧ (True)) (fun K11 hK11 => ?_) ?_
      · simp only [h9_1, h9_3] at hK11
        simp (maxSteps := 1000000) only [ΦU,Φy,Φz,ΦI,ev,Φi,Φu,Φn,Φo,Φx,Φw,Φa,Φp,reduceIte,reduceCtorEq,if_true,if_false,Φq,Φk,Φb,Φc,true_and,and_true,false_and,and_false,true_implies,forall_const,false_implies,ne_eq,not_true_eq_false,not_false_eq_true,decide_true,decide_false,Φv,and_self,true_or,or_true,dite_true,dite_false,Φe,Φd,decide_eq_true_eq,decide_eq_false_iff_not,Φf,Φh,Φg,Φj,beq_self_eq_true,Φr,Φs,Φt,Φl,Φm,eq_self,Ψx,Ψl,Ψm,VCops,VQops,Ψv,putVC,VC,VQ,ΦV,ΦW,ΦN,ΦO,ΦE,ΦF,ΦJ,List.getElem?_cons_zero,List.getElem?_cons_succ,List.getElem?_nil,List.getElem?_toArray,Ψc,Ψi,ΦP,ΦA,ΦB,ΦT,ΦM,ΦX,ΦK,ΦQ,ΦR,ΦY,ΦG,ΦH,ΦZ,ΦC,ΦD,Ψa,ΦL,Ψj,ΦS,Ψb,Ψd,Ψe,Ψg,Ψh,Ψn,exists_eq_left,exists_eq_left',exists_const,Ψs,Ψo,Ψp,fa_ptr,Ψu,Ψq,Ψw,Ψf,Ψr,Ψt,Ψk,T.elA_24,T.lay_24,T.szA_24,T.zr_24,Tryd.underlying24,ld_ptr,loadVC,loadN,T.szA_3,T.zr_3,Tryd.underlying3,bin_lss,pick_bool,hP,h9_1,h9_3,h9_20]
        repeat' (first | refine iteB (fun hg => ?_) (fun hg => ?_) | refine iteI (fun hg => ?_) (fun hg => ?_) | ((first | refine ⟨by omega, ?_⟩ | refine ⟨_, Cell.at 0 rfl rfl, ?_⟩ | fail); try simp (maxSteps := 1000000) only [ΦU,Φy,Φz,ΦI,ev,Φi,Φu,Φn,Φo,Φx,Φw,Φa,Φp,reduceIte,reduceCtorEq,if_true,if_false,Φq,Φk,Φb,Φc,true_and,and_true,false_and,and_false,true_implies,forall_const,false_implies,ne_eq,not_true_eq_false,not_false_eq_true,decide_true,decide_false,Φv,and_self,true_or,or_true,dite_true,dite_false,Φe,Φd,decide_eq_true_eq,decide_eq_false_iff_not,Φf,Φh,Φg,Φj,beq_self_eq_true,Φr,Φs,Φt,Φl,Φm,eq_self,Ψx,Ψl,Ψm,VCops,VQops,Ψv,putVC,VC,VQ,ΦV,ΦW,ΦN,ΦO,ΦE,ΦF,ΦJ,List.getElem?_cons_zero,List.getElem?_cons_succ,List.getElem?_nil,List.getElem?_toArray,Ψc,Ψi,ΦP,ΦA,ΦB,ΦT,ΦM,ΦX,ΦK,ΦQ,ΦR,ΦY,ΦG,ΦH,ΦZ,ΦC,ΦD,Ψa,ΦL,Ψj,ΦS,Ψb,Ψd,Ψe,Ψg,Ψh,Ψn,exists_eq_left,exists_eq_left',exists_const,Ψs,Ψo,Ψp,fa_ptr,Ψu,Ψq,Ψw,Ψf,Ψr,Ψt,Ψk,T.elA_24,T.lay_24,T.szA_24,T.zr_24,Tryd.underlying24,ld_ptr,loadVC,loadN,T.szA_3,T.zr_3,Tryd.underlying3,bin_lss,pick_bool,hP,h9_1,h9_3,h9_20]) | fail)
        all_goals
          refine hK11 () _ (some (bx, .cells #[.int .i64 l, .int .i64 c, .bool o, .int .i64 g] 24 (0, 0)) :: L) _ (by first | exact Less.refl _ | exact Less.drop _ _ | exact Less.drops (Less.drop _ _) | exact Less.drops (Less.drops (Less.drop _ _)) | exact Less.drops (Less.drops (Less.drops (Less.drop _ _))) | exact Less.drops (Less.drops (Less.drops (Less.drops (Less.drop _ _))))) ?_
          try dsimp only
          refine ⟨?_, ?_, ?_, ?_, ?_⟩
          · simp (maxSteps := 1000000) only [ΦU,Φy,Φz,ΦI,ev,Φi,Φu,Φn,Φo,Φx,Φw,Φa,Φp,reduceIte,reduceCtorEq,if_true,if_false,Φq,Φk,Φb,Φc,true_and,and_true,false_and,and_false,true_implies,forall_const,false_implies,ne_eq,not_true_eq_false,not_false_eq_true,decide_true,decide_false,Φv,and_self,true_or,or_true,dite_true,dite_false,Φe,Φd,decide_eq_true_eq,decide_eq_false_iff_not,Φf,Φh,Φg,Φj,beq_self_eq_true,Φr,Φs,Φt,Φl,Φm,eq_self,hP,h9_1,h9_3,h9_20]
            first | done | exact congrArg _ (decide_eq_decide.2 (by omega)) | exact congrArg _ (decide_eq_true (by omega)).symm | exact congrArg _ (decide_eq_false (by omega)).symm
          · simp (maxSteps := 1000000) only [ΦU,Φy,Φz,ΦI,ev,Φi,Φu,Φn,Φo,Φx,Φw,Φa,Φp,reduceIte,reduceCtorEq,if_true,if_false,Φq,Φk,Φb,Φc,true_and,and_true,false_and,and_false,true_implies,forall_const,false_implies,ne_eq,not_true_eq_false,not_false_eq_true,decide_true,decide_false,Φv,and_self,true_or,or_true,dite_true,dite_false,Φe,Φd,decide_eq_true_eq,decide_eq_false_iff_not,Φf,Φh,Φg,Φj,beq_self_eq_true,Φr,Φs,Φt,Φl,Φm,eq_self,hP,h9_1,h9_3,h9_20]
          · simp (maxSteps := 1000000) only [ΦU,Φy,Φz,ΦI,ev,Φi,Φu,Φn,Φo,Φx,Φw,Φa,Φp,reduceIte,reduceCtorEq,if_true,if_false,Φq,Φk,Φb,Φc,true_and,and_true,false_and,and_false,true_implies,forall_const,false_implies,ne_eq,not_true_eq_false,not_false_eq_true,decide_true,decide_false,Φv,and_self,true_or,or_true,dite_true,dite_false,Φe,Φd,decide_eq_true_eq,decide_eq_false_iff_not,Φf,Φh,Φg,Φj,beq_self_eq_true,Φr,Φs,Φt,Φl,Φm,eq_self,hP,h9_1,h9_3,h9_20]
          · rfl
          · trivial
      · intro ss T10 L10 hI
        simp only [h9_1, h9_3] at hI 
        obtain ⟨h10_25, h10_1, h10_3, hL10, hinv⟩ := hI
        replace hL10 := hL10.symm
        subst hL10
        clear h9_1 h9_3 h9_20 T9
        refine RX.live [1, 3, 25] (fun T11 hT11 => ?_)
        simp only [ΨH,forall_mem_nil',ΦU,Φy,Φz,ΦI,ev,Φi,Φu,Φn,Φo,Φx,Φw,Φa,Φp,reduceIte,reduceCtorEq,if_true,if_false,Φq,Φk,Φb,Φc,true_and,and_true,false_and,and_false,true_implies,forall_const,false_implies,ne_eq,not_true_eq_false,not_false_eq_true,decide_true,decide_false,Φv,and_self,true_or,or_true,dite_true,dite_false,Φe,Φd,decide_eq_true_eq,decide_eq_false_iff_not,Φf,Φh,Φg,Φj,beq_self_eq_true,Φr,Φs,Φt,Φl,Φm,eq_self,hP,h10_25,h10_1,h10_3] at hT11
        obtain ⟨h11_1, h11_3, h11_25⟩ := hT11
        clear h10_25 h10_1 h10_3 T10
        refine RX.join 5 (fun (ss : Unit) T L' => T 30 = .bool (decide (l < 0 ∨ 262 ≤ l ∨ c < 0 ∨ 14 ≤ c)) ∧ T 1 = T11 1 ∧ T 3 = T11 3 ∧ L' = some (bx, .cells #[.int .i64 l, .int .i64 c, .bool o, .int .i64 g] 24 (0, 0)) :: L ∧ (True)) (fun K12 hK12 => ?_) ?_
        · simp only [h11_1, h11_3] at hK12
          simp (maxSteps := 1000000) only [ΦU,Φy,Φz,ΦI,ev,Φi,Φu,Φn,Φo,Φx,Φw,Φa,Φp,reduceIte,reduceCtorEq,if_true,if_false,Φq,Φk,Φb,Φc,true_and,and_true,false_and,and_false,true_implies,forall_const,false_implies,ne_eq,not_true_eq_false,not_false_eq_true,decide_true,decide_false,Φv,and_self,true_or,or_true,dite_true,dite_false,Φe,Φd,decide_eq_true_eq,decide_eq_false_iff_not,Φf,Φh,Φg,Φj,beq_self_eq_true,Φr,Φs,Φt,Φl,Φm,eq_self,Ψx,Ψl,Ψm,VCops,VQops,Ψv,putVC,VC,VQ,ΦV,ΦW,ΦN,ΦO,ΦE,ΦF,ΦJ,List.getElem?_cons_zero,List.getElem?_cons_succ,List.getElem?_nil,List.getElem?_toArray,Ψc,Ψi,ΦP,ΦA,ΦB,ΦT,ΦM,ΦX,ΦK,ΦQ,ΦR,ΦY,ΦG,ΦH,ΦZ,ΦC,ΦD,Ψa,ΦL,Ψj,ΦS,Ψb,Ψd,Ψe,Ψg,Ψh,Ψn,exists_eq_left,exists_eq_left',exists_const,Ψs,Ψo,Ψp,fa_ptr,Ψu,Ψq,Ψw,Ψf,Ψr,Ψt,Ψk,T.elA_24,T.lay_24,T.szA_24,T.zr_24,Tryd.underlying24,ld_ptr,loadVC,loadN,T.szA_3,T.zr_3,Tryd.underlying3,bin_geq,pick_bool,hP,h11_1,h11_3,h11_25]
          repeat' (first | refine iteB (fun hg => ?_) (fun hg => ?_) | refine iteI (fun hg => ?_) (fun hg => ?_) | ((first | refine ⟨by omega, ?_⟩ | refine ⟨_, Cell.at 0 rfl rfl, ?_⟩ | fail); try simp (maxSteps := 1000000) only [ΦU,Φy,Φz,ΦI,ev,Φi,Φu,Φn,Φo,Φx,Φw,Φa,Φp,reduceIte,reduceCtorEq,if_true,if_false,Φq,Φk,Φb,Φc,true_and,and_true,false_and,and_false,true_implies,forall_const,false_implies,ne_eq,not_true_eq_false,not_false_eq_true,decide_true,decide_false,Φv,and_self,true_or,or_true,dite_true,dite_false,Φe,Φd,decide_eq_true_eq,decide_eq_false_iff_not,Φf,Φh,Φg,Φj,beq_self_eq_true,Φr,Φs,Φt,Φl,Φm,eq_self,Ψx,Ψl,Ψm,VCops,VQops,Ψv,putVC,VC,VQ,ΦV,ΦW,ΦN,ΦO,ΦE,ΦF,ΦJ,List.getElem?_cons_zero,List.getElem?_cons_succ,List.getElem?_nil,List.getElem?_toArray,Ψc,Ψi,ΦP,ΦA,ΦB,ΦT,ΦM,ΦX,ΦK,ΦQ,ΦR,ΦY,ΦG,ΦH,ΦZ,ΦC,ΦD,Ψa,ΦL,Ψj,ΦS,Ψb,Ψd,Ψe,Ψg,Ψh,Ψn,exists_eq_left,exists_eq_left',exists_const,Ψs,Ψo,Ψp,fa_ptr,Ψu,Ψq,Ψw,Ψf,Ψr,Ψt,Ψk,T.elA_24,T.lay_24,T.szA_24,T.zr_24,Tryd.underlying24,ld_ptr,loadVC,loadN,T.szA_3,T.zr_3,Tryd.underlying3,bin_geq,pick_bool,hP,h11_1,h11_3,h11_25]) | fail)
          all_goals
            refine hK12 () _ (some (bx, .cells #[.int .i64 l, .int .i64 c, .bool o, .int .i64 g] 24 (0, 0)) :: L) _ (by first | exact Less.refl _ | exact Less.drop _ _ | exact Less.drops (Less.drop _ _) | exact Less.drops (Less.drops (Less.drop _ _)) | exact Less.drops (Less.drops (Less.drops (Less.drop _ _))) | exact Less.drops (Less.drops (Less.drops (Less.drops (Less.drop _ _))))) ?_
            try dsimp only
            refine ⟨?_, ?_, ?_, ?_, ?_⟩
            · simp (maxSteps := 1000000) only [ΦU,Φy,Φz,ΦI,ev,Φi,Φu,Φn,Φo,Φx,Φw,Φa,Φp,reduceIte,reduceCtorEq,if_true,if_false,Φq,Φk,Φb,Φc,true_and,and_true,false_and,and_false,true_implies,forall_const,false_implies,ne_eq,not_true_eq_false,not_false_eq_true,decide_true,decide_false,Φv,and_self,true_or,or_true,dite_true,dite_false,Φe,Φd,decide_eq_true_eq,decide_eq_false_iff_not,Φf,Φh,Φg,Φj,beq_self_eq_true,Φr,Φs,Φt,Φl,Φm,eq_self,hP,h11_1,h11_3,h11_25]
              first | done | exact congrArg _ (decide_eq_decide.2 (by omega)) | exact congrArg _ (decide_eq_true (by omega)).symm | exact congrArg _ (decide_eq_false (by omega)).symm
            · simp (maxSteps := 1000000) only [ΦU,Φy,Φz,ΦI,ev,Φi,Φu,Φn,Φo,Φx,Φw,Φa,Φp,reduceIte,reduceCtorEq,if_true,if_false,Φq,Φk,Φb,Φc,true_and,and_true,false_and,and_false,true_implies,forall_const,false_implies,ne_eq,not_true_eq_false,not_false_eq_true,decide_true,decide_false,Φv,and_self,true_or,or_true,dite_true,dite_false,Φe,Φd,decide_eq_true_eq,decide_eq_false_iff_not,Φf,Φh,Φg,Φj,beq_self_eq_true,Φr,Φs,Φt,Φl,Φm,eq_self,hP,h11_1,h11_3,h11_25]
            · simp (maxSteps := 1000000) only [ΦU,Φy,Φz,ΦI,ev,Φi,Φu,Φn,Φo,Φx,Φw,Φa,Φp,reduceIte,reduceCtorEq,if_true,if_false,Φq,Φk,Φb,Φc,true_and,and_true,false_and,and_false,true_implies,forall_const,false_implies,ne_eq,not_true_eq_false,not_false_eq_true,decide_true,decide_false,Φv,and_self,true_or,or_true,dite_true,dite_false,Φe,Φd,decide_eq_true_eq,decide_eq_false_iff_not,Φf,Φh,Φg,Φj,beq_self_eq_true,Φr,Φs,Φt,Φl,Φm,eq_self,hP,h11_1,h11_3,h11_25]
            · rfl
            · trivial
        · intro ss T12 L12 hI
          simp only [h11_1, h11_3] at hI 
          obtain ⟨h12_30, h12_1, h12_3, hL12, hinv⟩ := hI
          replace hL12 := hL12.symm
          subst hL12
          clear h11_1 h11_3 h11_25 T11
          refine RX.live [1, 3, 30] (fun T13 hT13 => ?_)
          simp only [ΨH,forall_mem_nil',ΦU,Φy,Φz,ΦI,ev,Φi,Φu,Φn,Φo,Φx,Φw,Φa,Φp,reduceIte,reduceCtorEq,if_true,if_false,Φq,Φk,Φb,Φc,true_and,and_true,false_and,and_false,true_implies,forall_const,false_implies,ne_eq,not_true_eq_false,not_false_eq_true,decide_true,decide_false,Φv,and_self,true_or,or_true,dite_true,dite_false,Φe,Φd,decide_eq_true_eq,decide_eq_false_iff_not,Φf,Φh,Φg,Φj,beq_self_eq_true,Φr,Φs,Φt,Φl,Φm,eq_self,hP,h12_30,h12_1,h12_3] at hT13
          obtain ⟨h13_1, h13_3, h13_30⟩ := hT13
          clear h12_30 h12_1 h12_3 T12
          refine RX.join 5 (fun (ss : Unit) T L' => T 35 = .bool (decide (l < 0 ∨ 262 ≤ l ∨ c < 0 ∨ 14 ≤ c ∨ g < 0)) ∧ T 1 = T13 1 ∧ T 3 = T13 3 ∧ L' = some (bx, .cells #[.int .i64 l, .int .i64 c, .bool o, .int .i64 g] 24 (0, 0)) :: L ∧ (True)) (fun K13 hK13 => ?_) ?_
          · simp only [h13_1, h13_3] at hK13
            simp (maxSteps := 1000000) only [ΦU,Φy,Φz,ΦI,ev,Φi,Φu,Φn,Φo,Φx,Φw,Φa,Φp,reduceIte,reduceCtorEq,if_true,if_false,Φq,Φk,Φb,Φc,true_and,and_true,false_and,and_false,true_implies,forall_const,false_implies,ne_eq,not_true_eq_false,not_false_eq_true,decide_true,decide_false,Φv,and_self,true_or,or_true,dite_true,dite_false,Φe,Φd,decide_eq_true_eq,decide_eq_false_iff_not,Φf,Φh,Φg,Φj,beq_self_eq_true,Φr,Φs,Φt,Φl,Φm,eq_self,Ψx,Ψl,Ψm,VCops,VQops,Ψv,putVC,VC,VQ,ΦV,ΦW,ΦN,ΦO,ΦE,ΦF,ΦJ,List.getElem?_cons_zero,List.getElem?_cons_succ,List.getElem?_nil,List.getElem?_toArray,Ψc,Ψi,ΦP,ΦA,ΦB,ΦT,ΦM,ΦX,ΦK,ΦQ,ΦR,ΦY,ΦG,ΦH,ΦZ,ΦC,ΦD,Ψa,ΦL,Ψj,ΦS,Ψb,Ψd,Ψe,Ψg,Ψh,Ψn,exists_eq_left,exists_eq_left',exists_const,Ψs,Ψo,Ψp,fa_ptr,Ψu,Ψq,Ψw,Ψf,Ψr,Ψt,Ψk,T.elA_24,T.lay_24,T.szA_24,T.zr_24,Tryd.underlying24,ld_ptr,loadVC,loadN,T.szA_3,T.zr_3,Tryd.underlying3,bin_lss,pick_bool,hP,h13_1,h13_3,h13_30]
            repeat' (first | refine iteB (fun hg => ?_) (fun hg => ?_) | refine iteI (fun hg => ?_) (fun hg => ?_) | ((first | refine ⟨by omega, ?_⟩ | refine ⟨_, Cell.at 0 rfl rfl, ?_⟩ | fail); try simp (maxSteps := 1000000) only [ΦU,Φy,Φz,ΦI,ev,Φi,Φu,Φn,Φo,Φx,Φw,Φa,Φp,reduceIte,reduceCtorEq,if_true,if_false,Φq,Φk,Φb,Φc,true_and,and_true,false_and,and_false,true_implies,forall_const,false_implies,ne_eq,not_true_eq_false,not_false_eq_true,decide_true,decide_false,Φv,and_self,true_or,or_true,dite_true,dite_false,Φe,Φd,decide_eq_true_eq,decide_eq_false_iff_not,Φf,Φh,Φg,Φj,beq_self_eq_true,Φr,Φs,Φt,Φl,Φm,eq_self,Ψx,Ψl,Ψm,VCops,VQops,Ψv,putVC,VC,VQ,ΦV,ΦW,ΦN,ΦO,ΦE,ΦF,ΦJ,List.getElem?_cons_zero,List.getElem?_cons_succ,List.getElem?_nil,List.getElem?_toArray,Ψc,Ψi,ΦP,ΦA,ΦB,ΦT,ΦM,ΦX,ΦK,ΦQ,ΦR,ΦY,ΦG,ΦH,ΦZ,ΦC,ΦD,Ψa,ΦL,Ψj,ΦS,Ψb,Ψd,Ψe,Ψg,Ψh,Ψn,exists_eq_left,exists_eq_left',exists_const,Ψs,Ψo,Ψp,fa_ptr,Ψu,Ψq,Ψw,Ψf,Ψr,Ψt,Ψk,T.elA_24,T.lay_24,T.szA_24,T.zr_24,Tryd.underlying24,ld_ptr,loadVC,loadN,T.szA_3,T.zr_3,Tryd.underlying3,bin_lss,pick_bool,hP,h13_1,h13_3,h13_30]) | fail)
            all_goals
              refine hK13 () _ (some (bx, .cells #[.int .i64 l, .int .i64 c, .bool o, .int .i64 g] 24 (0, 0)) :: L) _ (by first | exact Less.refl _ | exact Less.drop _ _ | exact Less.drops (Less.drop _ _) | exact Less.drops (Less.drops (Less.drop _ _)) | exact Less.drops (Less.drops (Less.drops (Less.drop _ _))) | exact Less.drops (Less.drops (Less.drops (Less.drops (Less.drop _ _))))) ?_
              try dsimp only
              refine ⟨?_, ?_, ?_, ?_, ?_⟩
              · simp (maxSteps := 1000000) only [ΦU,Φy,Φz,ΦI,ev,Φi,Φu,Φn,Φo,Φx,Φw,Φa,Φp,reduceIte,reduceCtorEq,if_true,if_false,Φq,Φk,Φb,Φc,true_and,and_true,false_and,and_false,true_implies,forall_const,false_implies,ne_eq,not_true_eq_false,not_false_eq_true,decide_true,decide_false,Φv,and_self,true_or,or_true,dite_true,dite_false,Φe,Φd,decide_eq_true_eq,decide_eq_false_iff_not,Φf,Φh,Φg,Φj,beq_self_eq_true,Φr,Φs,Φt,Φl,Φm,eq_self,hP,h13_1,h13_3,h13_30]
                first | done | exact congrArg _ (decide_eq_decide.2 (by omega)) | exact congrArg _ (decide_eq_true (by omega)).symm | exact congrArg _ (decide_eq_false (by omega)).symm
              · simp (maxSteps := 1000000) only [ΦU,Φy,Φz,ΦI,ev,Φi,Φu,Φn,Φo,Φx,Φw,Φa,Φp,reduceIte,reduceCtorEq,if_true,if_false,Φq,Φk,Φb,Φc,true_and,and_true,false_and,and_false,true_implies,forall_const,false_implies,ne_eq,not_true_eq_false,not_false_eq_true,decide_true,decide_false,Φv,and_self,true_or,or_true,dite_true,dite_false,Φe,Φd,decide_eq_true_eq,decide_eq_false_iff_not,Φf,Φh,Φg,Φj,beq_self_eq_true,Φr,Φs,Φt,Φl,Φm,eq_self,hP,h13_1,h13_3,h13_30]
              · simp (maxSteps := 1000000) only [ΦU,Φy,Φz,ΦI,ev,Φi,Φu,Φn,Φo,Φx,Φw,Φa,Φp,reduceIte,reduceCtorEq,if_true,if_false,Φq,Φk,Φb,Φc,true_and,and_true,false_and,and_false,true_implies,forall_const,false_implies,ne_eq,not_true_eq_false,not_false_eq_true,decide_true,decide_false,Φv,and_self,true_or,or_true,dite_true,dite_false,Φe,Φd,decide_eq_true_eq,decide_eq_false_iff_not,Φf,Φh,Φg,Φj,beq_self_eq_true,Φr,Φs,Φt,Φl,Φm,eq_self,hP,h13_1,h13_3,h13_30]
              · rfl
              · trivial
          · intro ss T14 L14 hI
            simp only [h13_1, h13_3] at hI 
            obtain ⟨h14_35, h14_1, h14_3, hL14, hinv⟩ := hI
            replace hL14 := hL14.symm
            subst hL14
            clear h13_1 h13_3 h13_30 T13
            refine RX.live [1, 3, 35] (fun T15 hT15 => ?_)
            simp only [ΨH,forall_mem_nil',ΦU,Φy,Φz,ΦI,ev,Φi,Φu,Φn,Φo,Φx,Φw,Φa,Φp,reduceIte,reduceCtorEq,if_true,if_false,Φq,Φk,Φb,Φc,true_and,and_true,false_and,and_false,true_implies,forall_const,false_implies,ne_eq,not_true_eq_false,not_false_eq_true,decide_true,decide_false,Φv,and_self,true_or,or_true,dite_true,dite_false,Φe,Φd,decide_eq_true_eq,decide_eq_false_iff_not,Φf,Φh,Φg,Φj,beq_self_eq_true,Φr,Φs,Φt,Φl,Φm,eq_self,hP,h14_35,h14_1,h14_3] at hT15
            obtain ⟨h15_1, h15_3, h15_35⟩ := hT15
            clear h14_35 h14_1 h14_3 T14
            refine RX.join 6 (fun (ss : Unit) T L' => T 41 = .bool (decide (¬ (0 ≤ l ∧ l < 262 ∧ 0 ≤ c ∧ c < 14 ∧ 0 ≤ g ∧ g ≤ 8 ∧ (g = 0 ∨ 80 ≤ l ∧ l ≤ 207 ∧ g ≤ c - 2)))) ∧ L' = some (bx, .cells #[.int .i64 l, .int .i64 c, .bool o, .int .i64 g] 24 (0, 0)) :: L ∧ (True)) (fun K14 hK14 => ?_) ?_
            · simp (maxSteps := 1000000) only [ΦU,Φy,Φz,ΦI,ev,Φi,Φu,Φn,Φo,Φx,Φw,Φa,Φp,reduceIte,reduceCtorEq,if_true,if_false,Φq,Φk,Φb,Φc,true_and,and_true,false_and,and_false,true_implies,forall_const,false_implies,ne_eq,not_true_eq_false,not_false_eq_true,decide_true,decide_false,Φv,and_self,true_or,or_true,dite_true,dite_false,Φe,Φd,decide_eq_true_eq,decide_eq_false_iff_not,Φf,Φh,Φg,Φj,beq_self_eq_true,Φr,Φs,Φt,Φl,Φm,eq_self,Ψx,Ψl,Ψm,VCops,VQops,Ψv,putVC,VC,VQ,ΦV,ΦW,ΦN,ΦO,ΦE,ΦF,ΦJ,List.getElem?_cons_zero,List.getElem?_cons_succ,List.getElem?_nil,List.getElem?_toArray,Ψc,Ψi,ΦP,ΦA,ΦB,ΦT,ΦM,ΦX,ΦK,ΦQ,ΦR,ΦY,ΦG,ΦH,ΦZ,ΦC,ΦD,Ψa,ΦL,Ψj,ΦS,Ψb,Ψd,Ψe,Ψg,Ψh,Ψn,exists_eq_left,exists_eq_left',exists_const,Ψs,Ψo,Ψp,fa_ptr,Ψu,Ψq,Ψw,Ψf,Ψr,Ψt,Ψk,T.elA_24,T.lay_24,T.szA_24,T.zr_24,Tryd.underlying24,ld_ptr,loadVC,loadN,T.szA_3,T.zr_3,Tryd.underlying3,bin_gtr,pick_bool,hP,h15_1,h15_3,h15_35]
              repeat' (first | refine iteB (fun hg => ?_) (fun hg => ?_) | refine iteI (fun hg => ?_) (fun hg => ?_) | ((first | refine ⟨by omega, ?_⟩ | refine ⟨_, Cell.at 0 rfl rfl, ?_⟩ | fail); try simp (maxSteps := 1000000) only [ΦU,Φy,Φz,ΦI,ev,Φi,Φu,Φn,Φo,Φx,Φw,Φa,Φp,reduceIte,reduceCtorEq,if_true,if_false,Φq,Φk,Φb,Φc,true_and,and_true,false_and,and_false,true_implies,forall_const,false_implies,ne_eq,not_true_eq_false,not_false_eq_true,decide_true,decide_false,Φv,and_self,true_or,or_true,dite_true,dite_false,Φe,Φd,decide_eq_true_eq,decide_eq_false_iff_not,Φf,Φh,Φg,Φj,beq_self_eq_true,Φr,Φs,Φt,Φl,Φm,eq_self,Ψx,Ψl,Ψm,VCops,VQops,Ψv,putVC,VC,VQ,ΦV,ΦW,ΦN,ΦO,ΦE,ΦF,ΦJ,List.getElem?_cons_zero,List.getElem?_cons_succ,List.getElem?_nil,List.getElem?_toArray,Ψc,Ψi,ΦP,ΦA,ΦB,ΦT,ΦM,ΦX,ΦK,ΦQ,ΦR,ΦY,ΦG,ΦH,ΦZ,ΦC,ΦD,Ψa,ΦL,Ψj,ΦS,Ψb,Ψd,Ψe,Ψg,Ψh,Ψn,exists_eq_left,exists_eq_left',exists_const,Ψs,Ψo,Ψp,fa_ptr,Ψu,Ψq,Ψw,Ψf,Ψr,Ψt,Ψk,T.elA_24,T.lay_24,T.szA_24,T.zr_24,Tryd.underlying24,ld_ptr,loadVC,loadN,T.szA_3,T.zr_3,Tryd.underlying3,bin_gtr,pick_bool,hP,h15_1,h15_3,h15_35]) | fail)
              all_goals
                refine hK14 () _ (some (bx, .cells #[.int .i64 l, .int .i64 c, .bool o, .int .i64 g] 24 (0, 0)) :: L) _ (by first | exact Less.refl _ | exact Less.drop _ _ | exact Less.drops (Less.drop _ _) | exact Less.drops (Less.drops (Less.drop _ _)) | exact Less.drops (Less.drops (Less.drops (Less.drop _ _))) | exact Less.drops (Less.drops (Less.drops (Less.drops (Less.drop _ _))))) ?_
                try dsimp only
                refine ⟨?_, ?_, ?_⟩
                · simp (maxSteps := 1000000) only [ΦU,Φy,Φz,ΦI,ev,Φi,Φu,Φn,Φo,Φx,Φw,Φa,Φp,reduceIte,reduceCtorEq,if_true,if_false,Φq,Φk,Φb,Φc,true_and,and_true,false_and,and_false,true_implies,forall_const,false_implies,ne_eq,not_true_eq_false,not_false_eq_true,decide_true,decide_false,Φv,and_self,true_or,or_true,dite_true,dite_false,Φe,Φd,decide_eq_true_eq,decide_eq_false_iff_not,Φf,Φh,Φg,Φj,beq_self_eq_true,Φr,Φs,Φt,Φl,Φm,eq_self,hP,h15_1,h15_3,h15_35]
                  first | done | exact congrArg _ (decide_eq_decide.2 (by omega)) | exact congrArg _ (decide_eq_true (by omega)).symm | exact congrArg _ (decide_eq_false (by omega)).symm
                · rfl
                · trivial
            · intro ss T16 L16 hI
              obtain ⟨h16_41, hL16, hinv⟩ := hI
              replace hL16 := hL16.symm
              subst hL16
              clear h15_1 h15_3 h15_35 T15
              refine RX.done ?_
              simp (maxSteps := 1000000) only [ΦU,Φy,Φz,ΦI,ev,Φi,Φu,Φn,Φo,Φx,Φw,Φa,Φp,reduceIte,reduceCtorEq,if_true,if_false,Φq,Φk,Φb,Φc,true_and,and_true,false_and,and_false,true_implies,forall_const,false_implies,ne_eq,not_true_eq_false,not_false_eq_true,decide_true,decide_false,Φv,and_self,true_or,or_true,dite_true,dite_false,Φe,Φd,decide_eq_true_eq,decide_eq_false_iff_not,Φf,Φh,Φg,Φj,beq_self_eq_true,Φr,Φs,Φt,Φl,Φm,eq_self,Ψx,Ψl,Ψm,VCops,VQops,Ψv,putVC,VC,VQ,ΦV,ΦW,ΦN,ΦO,ΦE,ΦF,ΦJ,List.getElem?_cons_zero,List.getElem?_cons_succ,List.getElem?_nil,List.getElem?_toArray,Ψc,Ψi,ΦP,ΦA,ΦB,ΦT,ΦM,ΦX,ΦK,ΦQ,ΦR,ΦY,ΦG,ΦH,ΦZ,ΦC,ΦD,Ψa,ΦL,Ψj,ΦS,Ψb,Ψd,Ψe,Ψg,Ψh,Ψn,exists_eq_left,exists_eq_left',exists_const,Ψs,Ψo,Ψp,hP,h16_41]
              refine hK9 _ _ ?_
              try clear hK9 K9
              refine SX.cond_k fun X15 Y15 hX15 hY15 => ?_
              simp (maxSteps := 1000000) only [ΦU,Φy,Φz,ΦI,ev,Φi,Φu,Φn,Φo,Φx,Φw,Φa,Φp,reduceIte,reduceCtorEq,if_true,if_false,Φq,Φk,Φb,Φc,true_and,and_true,false_and,and_false,true_implies,forall_const,false_implies,ne_eq,not_true_eq_false,not_false_eq_true,decide_true,decide_false,Φv,and_self,true_or,or_true,dite_true,dite_false,Φe,Φd,decide_eq_true_eq,decide_eq_false_iff_not,Φf,Φh,Φg,Φj,beq_self_eq_true,Φr,Φs,Φt,Φl,Φm,eq_self,hP,h16_41,condVC]
              refine ⟨fun hc41 => hX15 ?_, fun hc41 => hY15 ?_⟩
              · clear hX15 hY15 X15 Y15
                refine SX.seq_k fun K16 hK16 => ?_
                refine SX.region ?_
                simp (maxSteps := 1000000) only [ΦU,Φy,Φz,ΦI,ev,Φi,Φu,Φn,Φo,Φx,Φw,Φa,Φp,reduceIte,reduceCtorEq,if_true,if_false,Φq,Φk,Φb,Φc,true_and,and_true,false_and,and_false,true_implies,forall_const,false_implies,ne_eq,not_true_eq_false,not_false_eq_true,decide_true,decide_false,Φv,and_self,true_or,or_true,dite_true,dite_false,Φe,Φd,decide_eq_true_eq,decide_eq_false_iff_not,Φf,Φh,Φg,Φj,beq_self_eq_true,Φr,Φs,Φt,Φl,Φm,eq_self,Ψx,Ψl,Ψm,VCops,VQops,Ψv,putVC,VC,VQ,ΦV,ΦW,ΦN,ΦO,ΦE,ΦF,ΦJ,List.getElem?_cons_zero,List.getElem?_cons_succ,List.getElem?_nil,List.getElem?_toArray,Ψc,Ψi,ΦP,ΦA,ΦB,ΦT,ΦM,ΦX,ΦK,ΦQ,ΦR,ΦY,ΦG,ΦH,ΦZ,ΦC,ΦD,Ψa,ΦL,Ψj,ΦS,Ψb,Ψd,Ψe,Ψg,Ψh,Ψn,exists_eq_left,exists_eq_left',exists_const,Ψs,Ψo,Ψp,hP,h16_41]
                refine hK16 _ _ ?_
                try clear hK16 K16
                refine SX.ret ?_
                simp only [Φi, Φu, Φn, Φo, Φx, Φw, Φa, if_true, if_false, reduceIte, retQ_ret]
                try simp only [res0,res1,res2,res3,ΦU,Φy,Φz,ΦI,ev,Φi,Φu,Φn,Φo,Φx,Φw,Φa,Φp,reduceIte,reduceCtorEq,if_true,if_false,Φq,Φk,Φb,Φc,true_and,and_true,false_and,and_false,true_implies,forall_const,false_implies,ne_eq,not_true_eq_false,not_false_eq_true,decide_true,decide_false,Φv,and_self,true_or,or_true,dite_true,dite_false,Φe,Φd,decide_eq_true_eq,decide_eq_false_iff_not,Φf,Φh,Φg,Φj,beq_self_eq_true,Φr,Φs,Φt,Φl,Φm,eq_self,hP,h16_41]
                refine ⟨_, L, (by first | exact Less.refl _ | exact Less.drop _ _ | exact Less.drops (Less.drop _ _) | exact Less.drops (Less.drops (Less.drop _ _)) | exact Less.drops (Less.drops (Less.drops (Less.drop _ _))) | exact Less.drops (Less.drops (Less.drops (Less.drops (Less.drop _ _))))), rfl, ?_, rfl⟩
                rw [chk, okB, decide_eq_false hc41]; rfl
              · clear hX15 hY15 X15 Y15
                refine SX.skip ?_
                simp only [Φi, Φu, Φn, Φo, Φx, Φw, Φa, if_true, if_false, reduceIte]
                refine hK8 _ _ ?_
                try clear hK8 K8
                refine SX.seq_k fun K17 hK17 => ?_
                refine SX.region ?_
                simp (maxSteps := 1000000) only [ΦU,Φy,Φz,ΦI,ev,Φi,Φu,Φn,Φo,Φx,Φw,Φa,Φp,reduceIte,reduceCtorEq,if_true,if_false,Φq,Φk,Φb,Φc,true_and,and_true,false_and,and_false,true_implies,forall_const,false_implies,ne_eq,not_true_eq_false,not_false_eq_true,decide_true,decide_false,Φv,and_self,true_or,or_true,dite_true,dite_false,Φe,Φd,decide_eq_true_eq,decide_eq_false_iff_not,Φf,Φh,Φg,Φj,beq_self_eq_true,Φr,Φs,Φt,Φl,Φm,eq_self,Ψx,Ψl,Ψm,VCops,VQops,Ψv,putVC,VC,VQ,ΦV,ΦW,ΦN,ΦO,ΦE,ΦF,ΦJ,List.getElem?_cons_zero,List.getElem?_cons_succ,List.getElem?_nil,List.getElem?_toArray,Ψc,Ψi,ΦP,ΦA,ΦB,ΦT,ΦM,ΦX,ΦK,ΦQ,ΦR,ΦY,ΦG,ΦH,ΦZ,ΦC,ΦD,Ψa,ΦL,Ψj,ΦS,Ψb,Ψd,Ψe,Ψg,Ψh,Ψn,exists_eq_left,exists_eq_left',exists_const,Ψs,Ψo,Ψp,hP,h16_41]
                refine hK17 _ _ ?_
                try clear hK17 K17
                refine SX.ret ?_
                simp only [Φi, Φu, Φn, Φo, Φx, Φw, Φa, if_true, if_false, reduceIte, retQ_ret]
                try simp only [res0,res1,res2,res3,ΦU,Φy,Φz,ΦI,ev,Φi,Φu,Φn,Φo,Φx,Φw,Φa,Φp,reduceIte,reduceCtorEq,if_true,if_false,Φq,Φk,Φb,Φc,true_and,and_true,false_and,and_false,true_implies,forall_const,false_implies,ne_eq,not_true_eq_false,not_false_eq_true,decide_true,decide_false,Φv,and_self,true_or,or_true,dite_true,dite_false,Φe,Φd,decide_eq_true_eq,decide_eq_false_iff_not,Φf,Φh,Φg,Φj,beq_self_eq_true,Φr,Φs,Φt,Φl,Φm,eq_self,hP,h16_41]
                refine ⟨_, L, (by first | exact Less.refl _ | exact Less.drop _ _ | exact Less.drops (Less.drop _ _) | exact Less.drops (Less.drops (Less.drop _ _)) | exact Less.drops (Less.drops (Less.drops (Less.drop _ _))) | exact Less.drops (Less.drops (Less.drops (Less.drops (Less.drop _ _))))), rfl, ?_, rfl⟩
                rw [chk, okB, decide_eq_true (by simpa using hc41)]; rfl
set_option maxHeartbeats 1000000 in
set_option maxRecDepth 100000 in
theorem wants_spec {Γ : Ctx} (hP : Γ.P = Tryd.prog) {L : Hp} {l c g : Int} {o : Bool} (S : SH Γ) :
    SCall Γ 48 #[(.agg #[.int .i64 l, .int .i64 c, .bool o, .int .i64 g])] L (fun v L' => v = .bool (wB l c o g) ∧ L' = L) := by
  refine SCall.enter (n := 26) (res1 2) (hP ▸ Tryd.func48) rfl rfl (by simp) (res1_ok rfl) ?_
  refine SX.seq_k fun K1 hK1 => ?_
  refine SX.region ?_
  simp (maxSteps := 1000000) only [ΦU,Φy,Φz,ΦI,ev,Φi,Φu,Φn,Φo,Φx,Φw,Φa,Φp,reduceIte,reduceCtorEq,if_true,if_false,Φq,Φk,Φb,Φc,true_and,and_true,false_and,and_false,true_implies,forall_const,false_implies,ne_eq,not_true_eq_false,not_false_eq_true,decide_true,decide_false,Φv,and_self,true_or,or_true,dite_true,dite_false,Φe,Φd,decide_eq_true_eq,decide_eq_false_iff_not,Φf,Φh,Φg,Φj,beq_self_eq_true,Φr,Φs,Φt,Φl,Φm,eq_self,Ψx,Ψl,Ψm,VCops,VQops,Ψv,putVC,VC,VQ,ΦV,ΦW,ΦN,ΦO,ΦE,ΦF,ΦJ,List.getElem?_cons_zero,List.getElem?_cons_succ,List.getElem?_nil,List.getElem?_toArray,Ψc,Ψi,ΦP,ΦA,ΦB,ΦT,ΦM,ΦX,ΦK,ΦQ,ΦR,ΦY,ΦG,ΦH,ΦZ,ΦC,ΦD,Ψa,ΦL,Ψj,ΦS,Ψb,Ψd,Ψe,Ψg,Ψh,Ψn,exists_eq_left,exists_eq_left',exists_const,Ψs,Ψo,Ψp,cells_int,cells_bool,ΨB,Ψz,ΨD,cells_agg,oneB_nil,oneB_cons,one_int,one_bool,one_string,ΨE,one_slice,one_map,one_func,ΨF,ΨC,one_iface,cells_map,cells_func,ΨA,Ψy,ΨG,T.elA_24,T.lay_24,T.szA_24,T.zr_24,Tryd.underlying24,hP]
  intro bx
  refine hK1 _ _ ?_
  try clear hK1 K1
  refine SX.seq_k fun K2 hK2 => ?_
  refine SX.quiet_x (hP ▸ T.mixed) (by kernel_rfl) ?_
  refine QX.live [1] (fun T1 hT1 => ?_)
  simp only [ΨH,forall_mem_nil',ΦU,Φy,Φz,ΦI,ev,Φi,Φu,Φn,Φo,Φx,Φw,Φa,Φp,reduceIte,reduceCtorEq,if_true,if_false,Φq,Φk,Φb,Φc,true_and,and_true,false_and,and_false,true_implies,forall_const,false_implies,ne_eq,not_true_eq_false,not_false_eq_true,decide_true,decide_false,Φv,and_self,true_or,or_true,dite_true,dite_false,Φe,Φd,decide_eq_true_eq,decide_eq_false_iff_not,Φf,Φh,Φg,Φj,beq_self_eq_true,Φr,Φs,Φt,Φl,Φm,eq_self,hP] at hT1
  have h1_1 := hT1; clear hT1
  refine QX.join 7 (fun (ss : Unit) T L' => T 9 = .bool (okB l c g && o) ∧ T 1 = T1 1 ∧ L' = some (bx, .cells #[.int .i64 l, .int .i64 c, .bool o, .int .i64 g] 24 (0, 0)) :: L ∧ (True)) (fun K3 hK3 => ?_) ?_
  · simp only [h1_1] at hK3
    simp (maxSteps := 1000000) only [ΦU,Φy,Φz,ΦI,ev,Φi,Φu,Φn,Φo,Φx,Φw,Φa,Φp,reduceIte,reduceCtorEq,if_true,if_false,Φq,Φk,Φb,Φc,true_and,and_true,false_and,and_false,true_implies,forall_const,false_implies,ne_eq,not_true_eq_false,not_false_eq_true,decide_true,decide_false,Φv,and_self,true_or,or_true,dite_true,dite_false,Φe,Φd,decide_eq_true_eq,decide_eq_false_iff_not,Φf,Φh,Φg,Φj,beq_self_eq_true,Φr,Φs,Φt,Φl,Φm,eq_self,Ψx,Ψl,Ψm,VCops,VQops,Ψv,putVC,VC,VQ,ΦV,ΦW,ΦN,ΦO,ΦE,ΦF,ΦJ,List.getElem?_cons_zero,List.getElem?_cons_succ,List.getElem?_nil,List.getElem?_toArray,Ψc,Ψi,ΦP,ΦA,ΦB,ΦT,ΦM,ΦX,ΦK,ΦQ,ΦR,ΦY,ΦG,ΦH,ΦZ,ΦC,ΦD,Ψa,ΦL,Ψj,ΦS,Ψb,Ψd,Ψe,Ψg,Ψh,Ψn,exists_eq_left,exists_eq_left',exists_const,Ψs,Ψo,Ψp,ld_ptr,loadVC,loadN,Ψu,Ψq,Ψw,Ψf,Ψr,Ψt,Ψk,T.elA_24,T.lay_24,T.szA_24,T.zr_24,Tryd.underlying24,qcall_f,call_f,len_slice,len_str,cap_slice,min_int,max_int,T.callable_27,bin_eql,bin_eqlb,bin_eqls,bin_eqla,T.szA_31,T.zr_31,Tryd.underlying31,fa_ptr,T.szA_4,T.zr_4,Tryd.underlying4,pick_bool,hP,h1_1,chk_eq,any1]
    repeat' (first | refine iteB (fun hg => ?_) (fun hg => ?_) | refine iteI (fun hg => ?_) (fun hg => ?_) | ((first | refine ⟨_, Check_spec hP S, ?_⟩ | refine ⟨_, within_spec (bs := [(80, 207)]) (a := ⟨0, 0, none⟩) hP S (by decide), ?_⟩ | refine ⟨by omega, ?_⟩ | refine ⟨_, Cell.at 0 rfl rfl, _, Cell.at 0 rfl rfl, _, Cell.at 0 rfl rfl, _, Cell.at 0 rfl rfl, ?_⟩ | refine ⟨_, Cell.at 0 rfl rfl, ?_⟩ | fail); try simp (maxSteps := 1000000) only [ΦU,Φy,Φz,ΦI,ev,Φi,Φu,Φn,Φo,Φx,Φw,Φa,Φp,reduceIte,reduceCtorEq,if_true,if_false,Φq,Φk,Φb,Φc,true_and,and_true,false_and,and_false,true_implies,forall_const,false_implies,ne_eq,not_true_eq_false,not_false_eq_true,decide_true,decide_false,Φv,and_self,true_or,or_true,dite_true,dite_false,Φe,Φd,decide_eq_true_eq,decide_eq_false_iff_not,Φf,Φh,Φg,Φj,beq_self_eq_true,Φr,Φs,Φt,Φl,Φm,eq_self,Ψx,Ψl,Ψm,VCops,VQops,Ψv,putVC,VC,VQ,ΦV,ΦW,ΦN,ΦO,ΦE,ΦF,ΦJ,List.getElem?_cons_zero,List.getElem?_cons_succ,List.getElem?_nil,List.getElem?_toArray,Ψc,Ψi,ΦP,ΦA,ΦB,ΦT,ΦM,ΦX,ΦK,ΦQ,ΦR,ΦY,ΦG,ΦH,ΦZ,ΦC,ΦD,Ψa,ΦL,Ψj,ΦS,Ψb,Ψd,Ψe,Ψg,Ψh,Ψn,exists_eq_left,exists_eq_left',exists_const,Ψs,Ψo,Ψp,ld_ptr,loadVC,loadN,Ψu,Ψq,Ψw,Ψf,Ψr,Ψt,Ψk,T.elA_24,T.lay_24,T.szA_24,T.zr_24,Tryd.underlying24,qcall_f,call_f,len_slice,len_str,cap_slice,min_int,max_int,T.callable_27,bin_eql,bin_eqlb,bin_eqls,bin_eqla,T.szA_31,T.zr_31,Tryd.underlying31,fa_ptr,T.szA_4,T.zr_4,Tryd.underlying4,pick_bool,hP,h1_1,chk_eq,any1]) | fail)
    all_goals
      refine hK3 () _ (some (bx, .cells #[.int .i64 l, .int .i64 c, .bool o, .int .i64 g] 24 (0, 0)) :: L) _ (by rfl) ?_
      try dsimp only
      refine ⟨?_, ?_, ?_, ?_⟩
      · simp (maxSteps := 1000000) only [ΦU,Φy,Φz,ΦI,ev,Φi,Φu,Φn,Φo,Φx,Φw,Φa,Φp,reduceIte,reduceCtorEq,if_true,if_false,Φq,Φk,Φb,Φc,true_and,and_true,false_and,and_false,true_implies,forall_const,false_implies,ne_eq,not_true_eq_false,not_false_eq_true,decide_true,decide_false,Φv,and_self,true_or,or_true,dite_true,dite_false,Φe,Φd,decide_eq_true_eq,decide_eq_false_iff_not,Φf,Φh,Φg,Φj,beq_self_eq_true,Φr,Φs,Φt,Φl,Φm,eq_self,hP,h1_1]
        first | done | rfl | (rw [hg]; rfl) | simp [hg]
      · simp (maxSteps := 1000000) only [ΦU,Φy,Φz,ΦI,ev,Φi,Φu,Φn,Φo,Φx,Φw,Φa,Φp,reduceIte,reduceCtorEq,if_true,if_false,Φq,Φk,Φb,Φc,true_and,and_true,false_and,and_false,true_implies,forall_const,false_implies,ne_eq,not_true_eq_false,not_false_eq_true,decide_true,decide_false,Φv,and_self,true_or,or_true,dite_true,dite_false,Φe,Φd,decide_eq_true_eq,decide_eq_false_iff_not,Φf,Φh,Φg,Φj,beq_self_eq_true,Φr,Φs,Φt,Φl,Φm,eq_self,hP,h1_1]
      · rfl
      · trivial
  · intro ss T2 L2 hE2 hI
    simp only [h1_1] at hI 
    obtain ⟨h2_9, h2_1, hL2, hinv⟩ := hI
    replace hL2 := hL2.symm
    subst hL2
    clear h1_1 T1
    clear hE2
    refine QX.live [1, 9] (fun T3 hT3 => ?_)
    simp only [ΨH,forall_mem_nil',ΦU,Φy,Φz,ΦI,ev,Φi,Φu,Φn,Φo,Φx,Φw,Φa,Φp,reduceIte,reduceCtorEq,if_true,if_false,Φq,Φk,Φb,Φc,true_and,and_true,false_and,and_false,true_implies,forall_const,false_implies,ne_eq,not_true_eq_false,not_false_eq_true,decide_true,decide_false,Φv,and_self,true_or,or_true,dite_true,dite_false,Φe,Φd,decide_eq_true_eq,decide_eq_false_iff_not,Φf,Φh,Φg,Φj,beq_self_eq_true,Φr,Φs,Φt,Φl,Φm,eq_self,hP,h2_9,h2_1] at hT3
    obtain ⟨h3_1, h3_9⟩ := hT3
    clear h2_9 h2_1 T2
    refine QX.join 6 (fun (ss : Unit) T L' => T 15 = .bool (okB l c g && o && decide (80 ≤ l ∧ l ≤ 207)) ∧ T 1 = T3 1 ∧ L' = some (bx, .cells #[.int .i64 l, .int .i64 c, .bool o, .int .i64 g] 24 (0, 0)) :: L ∧ (True)) (fun K4 hK4 => ?_) ?_
    · simp only [h3_1] at hK4
      simp (maxSteps := 1000000) only [ΦU,Φy,Φz,ΦI,ev,Φi,Φu,Φn,Φo,Φx,Φw,Φa,Φp,reduceIte,reduceCtorEq,if_true,if_false,Φq,Φk,Φb,Φc,true_and,and_true,false_and,and_false,true_implies,forall_const,false_implies,ne_eq,not_true_eq_false,not_false_eq_true,decide_true,decide_false,Φv,and_self,true_or,or_true,dite_true,dite_false,Φe,Φd,decide_eq_true_eq,decide_eq_false_iff_not,Φf,Φh,Φg,Φj,beq_self_eq_true,Φr,Φs,Φt,Φl,Φm,eq_self,Ψx,Ψl,Ψm,VCops,VQops,Ψv,putVC,VC,VQ,ΦV,ΦW,ΦN,ΦO,ΦE,ΦF,ΦJ,List.getElem?_cons_zero,List.getElem?_cons_succ,List.getElem?_nil,List.getElem?_toArray,Ψc,Ψi,ΦP,ΦA,ΦB,ΦT,ΦM,ΦX,ΦK,ΦQ,ΦR,ΦY,ΦG,ΦH,ΦZ,ΦC,ΦD,Ψa,ΦL,Ψj,ΦS,Ψb,Ψd,Ψe,Ψg,Ψh,Ψn,exists_eq_left,exists_eq_left',exists_const,Ψs,Ψo,Ψp,fa_ptr,Ψu,Ψq,Ψw,Ψf,Ψr,Ψt,Ψk,T.elA_24,T.lay_24,T.szA_24,T.zr_24,Tryd.underlying24,ld_ptr,loadVC,loadN,T.szA_3,T.zr_3,Tryd.underlying3,sliceVC,optI,T.elA_90,T.lay_90,T.szA_90,T.zr_90,Tryd.underlying90,qcall_f,call_f,len_slice,len_str,cap_slice,min_int,max_int,T.elS_88,T.szA_88,T.zr_88,Tryd.underlying88,T.callable_47,pick_bool,hP,h3_1,h3_9,chk_eq,any1]
      repeat' (first | refine iteB (fun hg => ?_) (fun hg => ?_) | refine iteI (fun hg => ?_) (fun hg => ?_) | ((first | refine ⟨_, Check_spec hP S, ?_⟩ | refine ⟨_, within_spec (bs := [(80, 207)]) (a := ⟨0, 0, none⟩) hP S (by decide), ?_⟩ | refine ⟨by omega, ?_⟩ | refine ⟨_, Cell.at 0 rfl rfl, ?_⟩ | fail); try simp (maxSteps := 1000000) only [ΦU,Φy,Φz,ΦI,ev,Φi,Φu,Φn,Φo,Φx,Φw,Φa,Φp,reduceIte,reduceCtorEq,if_true,if_false,Φq,Φk,Φb,Φc,true_and,and_true,false_and,and_false,true_implies,forall_const,false_implies,ne_eq,not_true_eq_false,not_false_eq_true,decide_true,decide_false,Φv,and_self,true_or,or_true,dite_true,dite_false,Φe,Φd,decide_eq_true_eq,decide_eq_false_iff_not,Φf,Φh,Φg,Φj,beq_self_eq_true,Φr,Φs,Φt,Φl,Φm,eq_self,Ψx,Ψl,Ψm,VCops,VQops,Ψv,putVC,VC,VQ,ΦV,ΦW,ΦN,ΦO,ΦE,ΦF,ΦJ,List.getElem?_cons_zero,List.getElem?_cons_succ,List.getElem?_nil,List.getElem?_toArray,Ψc,Ψi,ΦP,ΦA,ΦB,ΦT,ΦM,ΦX,ΦK,ΦQ,ΦR,ΦY,ΦG,ΦH,ΦZ,ΦC,ΦD,Ψa,ΦL,Ψj,ΦS,Ψb,Ψd,Ψe,Ψg,Ψh,Ψn,exists_eq_left,exists_eq_left',exists_const,Ψs,Ψo,Ψp,fa_ptr,Ψu,Ψq,Ψw,Ψf,Ψr,Ψt,Ψk,T.elA_24,T.lay_24,T.szA_24,T.zr_24,Tryd.underlying24,ld_ptr,loadVC,loadN,T.szA_3,T.zr_3,Tryd.underlying3,sliceVC,optI,T.elA_90,T.lay_90,T.szA_90,T.zr_90,Tryd.underlying90,qcall_f,call_f,len_slice,len_str,cap_slice,min_int,max_int,T.elS_88,T.szA_88,T.zr_88,Tryd.underlying88,T.callable_47,pick_bool,hP,h3_1,h3_9,chk_eq,any1]) | fail)
      all_goals
        refine hK4 () _ (some (bx, .cells #[.int .i64 l, .int .i64 c, .bool o, .int .i64 g] 24 (0, 0)) :: L) _ (by rfl) ?_
        try dsimp only
        refine ⟨?_, ?_, ?_, ?_⟩
        · simp (maxSteps := 1000000) only [ΦU,Φy,Φz,ΦI,ev,Φi,Φu,Φn,Φo,Φx,Φw,Φa,Φp,reduceIte,reduceCtorEq,if_true,if_false,Φq,Φk,Φb,Φc,true_and,and_true,false_and,and_false,true_implies,forall_const,false_implies,ne_eq,not_true_eq_false,not_false_eq_true,decide_true,decide_false,Φv,and_self,true_or,or_true,dite_true,dite_false,Φe,Φd,decide_eq_true_eq,decide_eq_false_iff_not,Φf,Φh,Φg,Φj,beq_self_eq_true,Φr,Φs,Φt,Φl,Φm,eq_self,hP,h3_1,h3_9]
          first | done | rfl | (rw [hg]; rfl) | simp [hg]
        · simp (maxSteps := 1000000) only [ΦU,Φy,Φz,ΦI,ev,Φi,Φu,Φn,Φo,Φx,Φw,Φa,Φp,reduceIte,reduceCtorEq,if_true,if_false,Φq,Φk,Φb,Φc,true_and,and_true,false_and,and_false,true_implies,forall_const,false_implies,ne_eq,not_true_eq_false,not_false_eq_true,decide_true,decide_false,Φv,and_self,true_or,or_true,dite_true,dite_false,Φe,Φd,decide_eq_true_eq,decide_eq_false_iff_not,Φf,Φh,Φg,Φj,beq_self_eq_true,Φr,Φs,Φt,Φl,Φm,eq_self,hP,h3_1,h3_9]
        · rfl
        · trivial
    · intro ss T4 L4 hE4 hI
      simp only [h3_1] at hI 
      obtain ⟨h4_15, h4_1, hL4, hinv⟩ := hI
      replace hL4 := hL4.symm
      subst hL4
      clear h3_1 h3_9 T3
      clear hE4
      refine QX.live [1, 15] (fun T5 hT5 => ?_)
      simp only [ΨH,forall_mem_nil',ΦU,Φy,Φz,ΦI,ev,Φi,Φu,Φn,Φo,Φx,Φw,Φa,Φp,reduceIte,reduceCtorEq,if_true,if_false,Φq,Φk,Φb,Φc,true_and,and_true,false_and,and_false,true_implies,forall_const,false_implies,ne_eq,not_true_eq_false,not_false_eq_true,decide_true,decide_false,Φv,and_self,true_or,or_true,dite_true,dite_false,Φe,Φd,decide_eq_true_eq,decide_eq_false_iff_not,Φf,Φh,Φg,Φj,beq_self_eq_true,Φr,Φs,Φt,Φl,Φm,eq_self,hP,h4_15,h4_1] at hT5
      obtain ⟨h5_1, h5_15⟩ := hT5
      clear h4_15 h4_1 T4
      refine QX.join 5 (fun (ss : Unit) T L' => T 20 = .bool (okB l c g && o && decide (80 ≤ l ∧ l ≤ 207) && decide (2 ≤ c)) ∧ T 1 = T5 1 ∧ L' = some (bx, .cells #[.int .i64 l, .int .i64 c, .bool o, .int .i64 g] 24 (0, 0)) :: L ∧ (True)) (fun K5 hK5 => ?_) ?_
      · simp only [h5_1] at hK5
        simp (maxSteps := 1000000) only [ΦU,Φy,Φz,ΦI,ev,Φi,Φu,Φn,Φo,Φx,Φw,Φa,Φp,reduceIte,reduceCtorEq,if_true,if_false,Φq,Φk,Φb,Φc,true_and,and_true,false_and,and_false,true_implies,forall_const,false_implies,ne_eq,not_true_eq_false,not_false_eq_true,decide_true,decide_false,Φv,and_self,true_or,or_true,dite_true,dite_false,Φe,Φd,decide_eq_true_eq,decide_eq_false_iff_not,Φf,Φh,Φg,Φj,beq_self_eq_true,Φr,Φs,Φt,Φl,Φm,eq_self,Ψx,Ψl,Ψm,VCops,VQops,Ψv,putVC,VC,VQ,ΦV,ΦW,ΦN,ΦO,ΦE,ΦF,ΦJ,List.getElem?_cons_zero,List.getElem?_cons_succ,List.getElem?_nil,List.getElem?_toArray,Ψc,Ψi,ΦP,ΦA,ΦB,ΦT,ΦM,ΦX,ΦK,ΦQ,ΦR,ΦY,ΦG,ΦH,ΦZ,ΦC,ΦD,Ψa,ΦL,Ψj,ΦS,Ψb,Ψd,Ψe,Ψg,Ψh,Ψn,exists_eq_left,exists_eq_left',exists_const,Ψs,Ψo,Ψp,fa_ptr,Ψu,Ψq,Ψw,Ψf,Ψr,Ψt,Ψk,T.elA_24,T.lay_24,T.szA_24,T.zr_24,Tryd.underlying24,ld_ptr,loadVC,loadN,T.szA_3,T.zr_3,Tryd.underlying3,bin_geq,pick_bool,hP,h5_1,h5_15,chk_eq,any1]
        repeat' (first | refine iteB (fun hg => ?_) (fun hg => ?_) | refine iteI (fun hg => ?_) (fun hg => ?_) | ((first | refine ⟨_, Check_spec hP S, ?_⟩ | refine ⟨_, within_spec (bs := [(80, 207)]) (a := ⟨0, 0, none⟩) hP S (by decide), ?_⟩ | refine ⟨by omega, ?_⟩ | refine ⟨_, Cell.at 0 rfl rfl, ?_⟩ | fail); try simp (maxSteps := 1000000) only [ΦU,Φy,Φz,ΦI,ev,Φi,Φu,Φn,Φo,Φx,Φw,Φa,Φp,reduceIte,reduceCtorEq,if_true,if_false,Φq,Φk,Φb,Φc,true_and,and_true,false_and,and_false,true_implies,forall_const,false_implies,ne_eq,not_true_eq_false,not_false_eq_true,decide_true,decide_false,Φv,and_self,true_or,or_true,dite_true,dite_false,Φe,Φd,decide_eq_true_eq,decide_eq_false_iff_not,Φf,Φh,Φg,Φj,beq_self_eq_true,Φr,Φs,Φt,Φl,Φm,eq_self,Ψx,Ψl,Ψm,VCops,VQops,Ψv,putVC,VC,VQ,ΦV,ΦW,ΦN,ΦO,ΦE,ΦF,ΦJ,List.getElem?_cons_zero,List.getElem?_cons_succ,List.getElem?_nil,List.getElem?_toArray,Ψc,Ψi,ΦP,ΦA,ΦB,ΦT,ΦM,ΦX,ΦK,ΦQ,ΦR,ΦY,ΦG,ΦH,ΦZ,ΦC,ΦD,Ψa,ΦL,Ψj,ΦS,Ψb,Ψd,Ψe,Ψg,Ψh,Ψn,exists_eq_left,exists_eq_left',exists_const,Ψs,Ψo,Ψp,fa_ptr,Ψu,Ψq,Ψw,Ψf,Ψr,Ψt,Ψk,T.elA_24,T.lay_24,T.szA_24,T.zr_24,Tryd.underlying24,ld_ptr,loadVC,loadN,T.szA_3,T.zr_3,Tryd.underlying3,bin_geq,pick_bool,hP,h5_1,h5_15,chk_eq,any1]) | fail)
        all_goals
          refine hK5 () _ (some (bx, .cells #[.int .i64 l, .int .i64 c, .bool o, .int .i64 g] 24 (0, 0)) :: L) _ (by rfl) ?_
          try dsimp only
          refine ⟨?_, ?_, ?_, ?_⟩
          · simp (maxSteps := 1000000) only [ΦU,Φy,Φz,ΦI,ev,Φi,Φu,Φn,Φo,Φx,Φw,Φa,Φp,reduceIte,reduceCtorEq,if_true,if_false,Φq,Φk,Φb,Φc,true_and,and_true,false_and,and_false,true_implies,forall_const,false_implies,ne_eq,not_true_eq_false,not_false_eq_true,decide_true,decide_false,Φv,and_self,true_or,or_true,dite_true,dite_false,Φe,Φd,decide_eq_true_eq,decide_eq_false_iff_not,Φf,Φh,Φg,Φj,beq_self_eq_true,Φr,Φs,Φt,Φl,Φm,eq_self,hP,h5_1,h5_15]
            first | done | rfl | (rw [hg]; rfl) | simp [hg]
          · simp (maxSteps := 1000000) only [ΦU,Φy,Φz,ΦI,ev,Φi,Φu,Φn,Φo,Φx,Φw,Φa,Φp,reduceIte,reduceCtorEq,if_true,if_false,Φq,Φk,Φb,Φc,true_and,and_true,false_and,and_false,true_implies,forall_const,false_implies,ne_eq,not_true_eq_false,not_false_eq_true,decide_true,decide_false,Φv,and_self,true_or,or_true,dite_true,dite_false,Φe,Φd,decide_eq_true_eq,decide_eq_false_iff_not,Φf,Φh,Φg,Φj,beq_self_eq_true,Φr,Φs,Φt,Φl,Φm,eq_self,hP,h5_1,h5_15]
          · rfl
          · trivial
      · intro ss T6 L6 hE6 hI
        simp only [h5_1] at hI 
        obtain ⟨h6_20, h6_1, hL6, hinv⟩ := hI
        replace hL6 := hL6.symm
        subst hL6
        clear h5_1 h5_15 T5
        clear hE6
        refine QX.live [1, 20] (fun T7 hT7 => ?_)
        simp only [ΨH,forall_mem_nil',ΦU,Φy,Φz,ΦI,ev,Φi,Φu,Φn,Φo,Φx,Φw,Φa,Φp,reduceIte,reduceCtorEq,if_true,if_false,Φq,Φk,Φb,Φc,true_and,and_true,false_and,and_false,true_implies,forall_const,false_implies,ne_eq,not_true_eq_false,not_false_eq_true,decide_true,decide_false,Φv,and_self,true_or,or_true,dite_true,dite_false,Φe,Φd,decide_eq_true_eq,decide_eq_false_iff_not,Φf,Φh,Φg,Φj,beq_self_eq_true,Φr,Φs,Φt,Φl,Φm,eq_self,hP,h6_20,h6_1] at hT7
        obtain ⟨h7_1, h7_20⟩ := hT7
        clear h6_20 h6_1 T6
        refine QX.join 5 (fun (ss : Unit) T L' => T 25 = .bool (okB l c g && o && decide (80 ≤ l ∧ l ≤ 207) && decide (2 ≤ c) && decide (g < 8)) ∧ L' = some (bx, .cells #[.int .i64 l, .int .i64 c, .bool o, .int .i64 g] 24 (0, 0)) :: L ∧ (True)) (fun K6 hK6 => ?_) ?_
        · simp (maxSteps := 1000000) only [ΦU,Φy,Φz,ΦI,ev,Φi,Φu,Φn,Φo,Φx,Φw,Φa,Φp,reduceIte,reduceCtorEq,if_true,if_false,Φq,Φk,Φb,Φc,true_and,and_true,false_and,and_false,true_implies,forall_const,false_implies,ne_eq,not_true_eq_false,not_false_eq_true,decide_true,decide_false,Φv,and_self,true_or,or_true,dite_true,dite_false,Φe,Φd,decide_eq_true_eq,decide_eq_false_iff_not,Φf,Φh,Φg,Φj,beq_self_eq_true,Φr,Φs,Φt,Φl,Φm,eq_self,Ψx,Ψl,Ψm,VCops,VQops,Ψv,putVC,VC,VQ,ΦV,ΦW,ΦN,ΦO,ΦE,ΦF,ΦJ,List.getElem?_cons_zero,List.getElem?_cons_succ,List.getElem?_nil,List.getElem?_toArray,Ψc,Ψi,ΦP,ΦA,ΦB,ΦT,ΦM,ΦX,ΦK,ΦQ,ΦR,ΦY,ΦG,ΦH,ΦZ,ΦC,ΦD,Ψa,ΦL,Ψj,ΦS,Ψb,Ψd,Ψe,Ψg,Ψh,Ψn,exists_eq_left,exists_eq_left',exists_const,Ψs,Ψo,Ψp,fa_ptr,Ψu,Ψq,Ψw,Ψf,Ψr,Ψt,Ψk,T.elA_24,T.lay_24,T.szA_24,T.zr_24,Tryd.underlying24,ld_ptr,loadVC,loadN,T.szA_3,T.zr_3,Tryd.underlying3,bin_lss,pick_bool,hP,h7_1,h7_20,chk_eq,any1]
          repeat' (first | refine iteB (fun hg => ?_) (fun hg => ?_) | refine iteI (fun hg => ?_) (fun hg => ?_) | ((first | refine ⟨_, Check_spec hP S, ?_⟩ | refine ⟨_, within_spec (bs := [(80, 207)]) (a := ⟨0, 0, none⟩) hP S (by decide), ?_⟩ | refine ⟨by omega, ?_⟩ | refine ⟨_, Cell.at 0 rfl rfl, ?_⟩ | fail); try simp (maxSteps := 1000000) only [ΦU,Φy,Φz,ΦI,ev,Φi,Φu,Φn,Φo,Φx,Φw,Φa,Φp,reduceIte,reduceCtorEq,if_true,if_false,Φq,Φk,Φb,Φc,true_and,and_true,false_and,and_false,true_implies,forall_const,false_implies,ne_eq,not_true_eq_false,not_false_eq_true,decide_true,decide_false,Φv,and_self,true_or,or_true,dite_true,dite_false,Φe,Φd,decide_eq_true_eq,decide_eq_false_iff_not,Φf,Φh,Φg,Φj,beq_self_eq_true,Φr,Φs,Φt,Φl,Φm,eq_self,Ψx,Ψl,Ψm,VCops,VQops,Ψv,putVC,VC,VQ,ΦV,ΦW,ΦN,ΦO,ΦE,ΦF,ΦJ,List.getElem?_cons_zero,List.getElem?_cons_succ,List.getElem?_nil,List.getElem?_toArray,Ψc,Ψi,ΦP,ΦA,ΦB,ΦT,ΦM,ΦX,ΦK,ΦQ,ΦR,ΦY,ΦG,ΦH,ΦZ,ΦC,ΦD,Ψa,ΦL,Ψj,ΦS,Ψb,Ψd,Ψe,Ψg,Ψh,Ψn,exists_eq_left,exists_eq_left',exists_const,Ψs,Ψo,Ψp,fa_ptr,Ψu,Ψq,Ψw,Ψf,Ψr,Ψt,Ψk,T.elA_24,T.lay_24,T.szA_24,T.zr_24,Tryd.underlying24,ld_ptr,loadVC,loadN,T.szA_3,T.zr_3,Tryd.underlying3,bin_lss,pick_bool,hP,h7_1,h7_20,chk_eq,any1]) | fail)
          all_goals
            refine hK6 () _ (some (bx, .cells #[.int .i64 l, .int .i64 c, .bool o, .int .i64 g] 24 (0, 0)) :: L) _ (by rfl) ?_
            try dsimp only
            refine ⟨?_, ?_, ?_⟩
            · simp (maxSteps := 1000000) only [ΦU,Φy,Φz,ΦI,ev,Φi,Φu,Φn,Φo,Φx,Φw,Φa,Φp,reduceIte,reduceCtorEq,if_true,if_false,Φq,Φk,Φb,Φc,true_and,and_true,false_and,and_false,true_implies,forall_const,false_implies,ne_eq,not_true_eq_false,not_false_eq_true,decide_true,decide_false,Φv,and_self,true_or,or_true,dite_true,dite_false,Φe,Φd,decide_eq_true_eq,decide_eq_false_iff_not,Φf,Φh,Φg,Φj,beq_self_eq_true,Φr,Φs,Φt,Φl,Φm,eq_self,hP,h7_1,h7_20]
              first | done | rfl | (rw [hg]; rfl) | simp [hg]
            · rfl
            · trivial
        · intro ss T8 L8 hE8 hI
          obtain ⟨h8_25, hL8, hinv⟩ := hI
          replace hL8 := hL8.symm
          subst hL8
          clear h7_1 h7_20 T7
          clear hE8
          refine QX.done ?_
          simp (maxSteps := 1000000) only [ΦU,Φy,Φz,ΦI,ev,Φi,Φu,Φn,Φo,Φx,Φw,Φa,Φp,reduceIte,reduceCtorEq,if_true,if_false,Φq,Φk,Φb,Φc,true_and,and_true,false_and,and_false,true_implies,forall_const,false_implies,ne_eq,not_true_eq_false,not_false_eq_true,decide_true,decide_false,Φv,and_self,true_or,or_true,dite_true,dite_false,Φe,Φd,decide_eq_true_eq,decide_eq_false_iff_not,Φf,Φh,Φg,Φj,beq_self_eq_true,Φr,Φs,Φt,Φl,Φm,eq_self,Ψx,Ψl,Ψm,VCops,VQops,Ψv,putVC,VC,VQ,ΦV,ΦW,ΦN,ΦO,ΦE,ΦF,ΦJ,List.getElem?_cons_zero,List.getElem?_cons_succ,List.getElem?_nil,List.getElem?_toArray,Ψc,Ψi,ΦP,ΦA,ΦB,ΦT,ΦM,ΦX,ΦK,ΦQ,ΦR,ΦY,ΦG,ΦH,ΦZ,ΦC,ΦD,Ψa,ΦL,Ψj,ΦS,Ψb,Ψd,Ψe,Ψg,Ψh,Ψn,exists_eq_left,exists_eq_left',exists_const,Ψs,Ψo,Ψp,hP,h8_25]
          refine hK2 _ _ ?_
          try clear hK2 K2
          refine SX.ret ?_
          simp only [Φi, Φu, Φn, Φo, Φx, Φw, Φa, if_true, if_false, reduceIte, retQ_ret]
          try simp only [res0,res1,res2,res3,ΦU,Φy,Φz,ΦI,ev,Φi,Φu,Φn,Φo,Φx,Φw,Φa,Φp,reduceIte,reduceCtorEq,if_true,if_false,Φq,Φk,Φb,Φc,true_and,and_true,false_and,and_false,true_implies,forall_const,false_implies,ne_eq,not_true_eq_false,not_false_eq_true,decide_true,decide_false,Φv,and_self,true_or,or_true,dite_true,dite_false,Φe,Φd,decide_eq_true_eq,decide_eq_false_iff_not,Φf,Φh,Φg,Φj,beq_self_eq_true,Φr,Φs,Φt,Φl,Φm,eq_self,hP,h8_25]
          exact ⟨_, L, (by first | exact Less.refl _ | exact Less.drop _ _ | exact Less.drops (Less.drop _ _) | exact Less.drops (Less.drops (Less.drop _ _)) | exact Less.drops (Less.drops (Less.drops (Less.drop _ _))) | exact Less.drops (Less.drops (Less.drops (Less.drops (Less.drop _ _))))), rfl, rfl, rfl⟩
set_option maxHeartbeats 1000000 in
set_option maxRecDepth 100000 in
theorem Takes_spec {Γ : Ctx} (hP : Γ.P = Tryd.prog) {L : Hp} {l c g : Int} {o : Bool} {code ad data port : Int} {rd wr own pulse : Bool} (S : SH Γ) :
    SCall Γ 30 #[(.agg #[.int .i64 l, .int .i64 c, .bool o, .int .i64 g]), (.agg #[.int .u8 code, .int .u16 ad, .bool rd, .bool wr, .bool own, .int .u8 data, .int .u8 port, .bool pulse])] L (fun v L' => v = .bool (tB l c o g code rd) ∧ L' = L) := by
  refine SCall.enter (n := 16) (res1 4) (hP ▸ Tryd.func30) rfl rfl (by simp) (res1_ok rfl) ?_
  refine SX.seq_k fun K1 hK1 => ?_
  refine SX.region ?_
  simp (maxSteps := 1000000) only [ΦU,Φy,Φz,ΦI,ev,Φi,Φu,Φn,Φo,Φx,Φw,Φa,Φp,reduceIte,reduceCtorEq,if_true,if_false,Φq,Φk,Φb,Φc,true_and,and_true,false_and,and_false,true_implies,forall_const,false_implies,ne_eq,not_true_eq_false,not_false_eq_true,decide_true,decide_false,Φv,and_self,true_or,or_true,dite_true,dite_false,Φe,Φd,decide_eq_true_eq,decide_eq_false_iff_not,Φf,Φh,Φg,Φj,beq_self_eq_true,Φr,Φs,Φt,Φl,Φm,eq_self,Ψx,Ψl,Ψm,VCops,VQops,Ψv,putVC,VC,VQ,ΦV,ΦW,ΦN,ΦO,ΦE,ΦF,ΦJ,List.getElem?_cons_zero,List.getElem?_cons_succ,List.getElem?_nil,List.getElem?_toArray,Ψc,Ψi,ΦP,ΦA,ΦB,ΦT,ΦM,ΦX,ΦK,ΦQ,ΦR,ΦY,ΦG,ΦH,ΦZ,ΦC,ΦD,Ψa,ΦL,Ψj,ΦS,Ψb,Ψd,Ψe,Ψg,Ψh,Ψn,exists_eq_left,exists_eq_left',exists_const,Ψs,Ψo,Ψp,cells_int,cells_bool,ΨB,Ψz,ΨD,cells_agg,oneB_nil,oneB_cons,one_int,one_bool,one_string,ΨE,one_slice,one_map,one_func,ΨF,ΨC,one_iface,cells_map,cells_func,ΨA,Ψy,ΨG,T.elA_24,T.lay_24,T.szA_24,T.zr_24,Tryd.underlying24,T.elA_49,T.lay_49,T.szA_49,T.zr_49,Tryd.underlying49,hP]
  intro bx bd
  refine hK1 _ _ ?_
  try clear hK1 K1
  refine SX.seq_k fun K2 hK2 => ?_
  refine SX.region_x ?_
  refine RX.live [2, 3] (fun T1 hT1 => ?_)
  simp only [ΨH,forall_mem_nil',ΦU,Φy,Φz,ΦI,ev,Φi,Φu,Φn,Φo,Φx,Φw,Φa,Φp,reduceIte,reduceCtorEq,if_true,if_false,Φq,Φk,Φb,Φc,true_and,and_true,false_and,and_false,true_implies,forall_const,false_implies,ne_eq,not_true_eq_false,not_false_eq_true,decide_true,decide_false,Φv,and_self,true_or,or_true,dite_true,dite_false,Φe,Φd,decide_eq_true_eq,decide_eq_false_iff_not,Φf,Φh,Φg,Φj,beq_self_eq_true,Φr,Φs,Φt,Φl,Φm,eq_self,hP] at hT1
  obtain ⟨h1_2, h1_3⟩ := hT1
  refine RX.join 7 (fun (ss : Unit) T L' => T 11 = .bool (wB l c o g && decide (code = 2)) ∧ T 3 = T1 3 ∧ L' = some (bd, .cells #[.int .u8 code, .int .u16 ad, .bool rd, .bool wr, .bool own, .int .u8 data, .int .u8 port, .bool pulse] 49 (0, 0)) :: some (bx, .cells #[.int .i64 l, .int .i64 c, .bool o, .int .i64 g] 24 (0, 0)) :: L ∧ (True)) (fun K3 hK3 => ?_) ?_
  · simp only [h1_3] at hK3
    simp (maxSteps := 1000000) only [ΦU,Φy,Φz,ΦI,ev,Φi,Φu,Φn,Φo,Φx,Φw,Φa,Φp,reduceIte,reduceCtorEq,if_true,if_false,Φq,Φk,Φb,Φc,true_and,and_true,false_and,and_false,true_implies,forall_const,false_implies,ne_eq,not_true_eq_false,not_false_eq_true,decide_true,decide_false,Φv,and_self,true_or,or_true,dite_true,dite_false,Φe,Φd,decide_eq_true_eq,decide_eq_false_iff_not,Φf,Φh,Φg,Φj,beq_self_eq_true,Φr,Φs,Φt,Φl,Φm,eq_self,Ψx,Ψl,Ψm,VCops,VQops,Ψv,putVC,VC,VQ,ΦV,ΦW,ΦN,ΦO,ΦE,ΦF,ΦJ,List.getElem?_cons_zero,List.getElem?_cons_succ,List.getElem?_nil,List.getElem?_toArray,Ψc,Ψi,ΦP,ΦA,ΦB,ΦT,ΦM,ΦX,ΦK,ΦQ,ΦR,ΦY,ΦG,ΦH,ΦZ,ΦC,ΦD,Ψa,ΦL,Ψj,ΦS,Ψb,Ψd,Ψe,Ψg,Ψh,Ψn,exists_eq_left,exists_eq_left',exists_const,Ψs,Ψo,Ψp,ld_ptr,loadVC,loadN,Ψu,Ψq,Ψw,Ψf,Ψr,Ψt,Ψk,T.elA_24,T.lay_24,T.szA_24,T.zr_24,Tryd.underlying24,qcall_f,call_f,len_slice,len_str,cap_slice,min_int,max_int,T.callable_48,fa_ptr,T.elA_49,T.lay_49,T.szA_49,T.zr_49,Tryd.underlying49,T.szA_5,T.zr_5,Tryd.underlying5,bin_eql,bin_eqlb,bin_eqls,bin_eqla,pick_bool,hP,h1_2,h1_3]
    repeat' (first | refine iteB (fun hg => ?_) (fun hg => ?_) | refine iteI (fun hg => ?_) (fun hg => ?_) | ((first | (refine SCall.mono (wants_spec hP S) ?_; rintro v_ L_ ⟨hv_, hL_⟩; rw [hv_, hL_]; clear hv_ hL_ v_ L_) | refine ⟨by omega, ?_⟩ | refine ⟨_, Cell.at 0 rfl rfl, _, Cell.at 0 rfl rfl, _, Cell.at 0 rfl rfl, _, Cell.at 0 rfl rfl, ?_⟩ | refine ⟨_, Cell.at 1 rfl rfl, _, Cell.at 1 rfl rfl, _, Cell.at 1 rfl rfl, _, Cell.at 1 rfl rfl, ?_⟩ | refine ⟨_, Cell.at 0 rfl rfl, ?_⟩ | refine ⟨_, Cell.at 1 rfl rfl, ?_⟩ | fail); try simp (maxSteps := 1000000) only [ΦU,Φy,Φz,ΦI,ev,Φi,Φu,Φn,Φo,Φx,Φw,Φa,Φp,reduceIte,reduceCtorEq,if_true,if_false,Φq,Φk,Φb,Φc,true_and,and_true,false_and,and_false,true_implies,forall_const,false_implies,ne_eq,not_true_eq_false,not_false_eq_true,decide_true,decide_false,Φv,and_self,true_or,or_true,dite_true,dite_false,Φe,Φd,decide_eq_true_eq,decide_eq_false_iff_not,Φf,Φh,Φg,Φj,beq_self_eq_true,Φr,Φs,Φt,Φl,Φm,eq_self,Ψx,Ψl,Ψm,VCops,VQops,Ψv,putVC,VC,VQ,ΦV,ΦW,ΦN,ΦO,ΦE,ΦF,ΦJ,List.getElem?_cons_zero,List.getElem?_cons_succ,List.getElem?_nil,List.getElem?_toArray,Ψc,Ψi,ΦP,ΦA,ΦB,ΦT,ΦM,ΦX,ΦK,ΦQ,ΦR,ΦY,ΦG,ΦH,ΦZ,ΦC,ΦD,Ψa,ΦL,Ψj,ΦS,Ψb,Ψd,Ψe,Ψg,Ψh,Ψn,exists_eq_left,exists_eq_left',exists_const,Ψs,Ψo,Ψp,ld_ptr,loadVC,loadN,Ψu,Ψq,Ψw,Ψf,Ψr,Ψt,Ψk,T.elA_24,T.lay_24,T.szA_24,T.zr_24,Tryd.underlying24,qcall_f,call_f,len_slice,len_str,cap_slice,min_int,max_int,T.callable_48,fa_ptr,T.elA_49,T.lay_49,T.szA_49,T.zr_49,Tryd.underlying49,T.szA_5,T.zr_5,Tryd.underlying5,bin_eql,bin_eqlb,bin_eqls,bin_eqla,pick_bool,hP,h1_2,h1_3]) | fail)
    all_goals
      refine hK3 () _ (some (bd, .cells #[.int .u8 code, .int .u16 ad, .bool rd, .bool wr, .bool own, .int .u8 data, .int .u8 port, .bool pulse] 49 (0, 0)) :: some (bx, .cells #[.int .i64 l, .int .i64 c, .bool o, .int .i64 g] 24 (0, 0)) :: L) _ (by first | exact Less.refl _ | exact Less.drop _ _ | exact Less.drops (Less.drop _ _) | exact Less.drops (Less.drops (Less.drop _ _)) | exact Less.drops (Less.drops (Less.drops (Less.drop _ _))) | exact Less.drops (Less.drops (Less.drops (Less.drops (Less.drop _ _))))) ?_
      try dsimp only
      refine ⟨?_, ?_, ?_, ?_⟩
      · simp (maxSteps := 1000000) only [ΦU,Φy,Φz,ΦI,ev,Φi,Φu,Φn,Φo,Φx,Φw,Φa,Φp,reduceIte,reduceCtorEq,if_true,if_false,Φq,Φk,Φb,Φc,true_and,and_true,false_and,and_false,true_implies,forall_const,false_implies,ne_eq,not_true_eq_false,not_false_eq_true,decide_true,decide_false,Φv,and_self,true_or,or_true,dite_true,dite_false,Φe,Φd,decide_eq_true_eq,decide_eq_false_iff_not,Φf,Φh,Φg,Φj,beq_self_eq_true,Φr,Φs,Φt,Φl,Φm,eq_self,hP,h1_2,h1_3]
        first | done | rfl | (rw [hg]; rfl) | simp [hg]
      · simp (maxSteps := 1000000) only [ΦU,Φy,Φz,ΦI,ev,Φi,Φu,Φn,Φo,Φx,Φw,Φa,Φp,reduceIte,reduceCtorEq,if_true,if_false,Φq,Φk,Φb,Φc,true_and,and_true,false_and,and_false,true_implies,forall_const,false_implies,ne_eq,not_true_eq_false,not_false_eq_true,decide_true,decide_false,Φv,and_self,true_or,or_true,dite_true,dite_false,Φe,Φd,decide_eq_true_eq,decide_eq_false_iff_not,Φf,Φh,Φg,Φj,beq_self_eq_true,Φr,Φs,Φt,Φl,Φm,eq_self,hP,h1_2,h1_3]
      · rfl
      · trivial
  · intro ss T2 L2 hI
    simp only [h1_3] at hI 
    obtain ⟨h2_11, h2_3, hL2, hinv⟩ := hI
    replace hL2 := hL2.symm
    subst hL2
    clear h1_2 h1_3 T1
    refine RX.live [3, 11] (fun T3 hT3 => ?_)
    simp only [ΨH,forall_mem_nil',ΦU,Φy,Φz,ΦI,ev,Φi,Φu,Φn,Φo,Φx,Φw,Φa,Φp,reduceIte,reduceCtorEq,if_true,if_false,Φq,Φk,Φb,Φc,true_and,and_true,false_and,and_false,true_implies,forall_const,false_implies,ne_eq,not_true_eq_false,not_false_eq_true,decide_true,decide_false,Φv,and_self,true_or,or_true,dite_true,dite_false,Φe,Φd,decide_eq_true_eq,decide_eq_false_iff_not,Φf,Φh,Φg,Φj,beq_self_eq_true,Φr,Φs,Φt,Φl,Φm,eq_self,hP,h2_11,h2_3] at hT3
    obtain ⟨h3_3, h3_11⟩ := hT3
    clear h2_11 h2_3 T2
    refine RX.join 4 (fun (ss : Unit) T L' => T 15 = .bool (wB l c o g && decide (code = 2) && rd) ∧ L' = some (bd, .cells #[.int .u8 code, .int .u16 ad, .bool rd, .bool wr, .bool own, .int .u8 data, .int .u8 port, .bool pulse] 49 (0, 0)) :: some (bx, .cells #[.int .i64 l, .int .i64 c, .bool o, .int .i64 g] 24 (0, 0)) :: L ∧ (True)) (fun K4 hK4 => ?_) ?_
    · simp (maxSteps := 1000000) only [ΦU,Φy,Φz,ΦI,ev,Φi,Φu,Φn,Φo,Φx,Φw,Φa,Φp,reduceIte,reduceCtorEq,if_true,if_false,Φq,Φk,Φb,Φc,true_and,and_true,false_and,and_false,true_implies,forall_const,false_implies,ne_eq,not_true_eq_false,not_false_eq_true,decide_true,decide_false,Φv,and_self,true_or,or_true,dite_true,dite_false,Φe,Φd,decide_eq_true_eq,decide_eq_false_iff_not,Φf,Φh,Φg,Φj,beq_self_eq_true,Φr,Φs,Φt,Φl,Φm,eq_self,Ψx,Ψl,Ψm,VCops,VQops,Ψv,putVC,VC,VQ,ΦV,ΦW,ΦN,ΦO,ΦE,ΦF,ΦJ,List.getElem?_cons_zero,List.getElem?_cons_succ,List.getElem?_nil,List.getElem?_toArray,Ψc,Ψi,ΦP,ΦA,ΦB,ΦT,ΦM,ΦX,ΦK,ΦQ,ΦR,ΦY,ΦG,ΦH,ΦZ,ΦC,ΦD,Ψa,ΦL,Ψj,ΦS,Ψb,Ψd,Ψe,Ψg,Ψh,Ψn,exists_eq_left,exists_eq_left',exists_const,Ψs,Ψo,Ψp,fa_ptr,Ψu,Ψq,Ψw,Ψf,Ψr,Ψt,Ψk,T.elA_49,T.lay_49,T.szA_49,T.zr_49,Tryd.underlying49,ld_ptr,loadVC,loadN,T.szA_4,T.zr_4,Tryd.underlying4,pick_bool,hP,h3_3,h3_11]
      repeat' (first | refine iteB (fun hg => ?_) (fun hg => ?_) | refine iteI (fun hg => ?_) (fun hg => ?_) | ((first | (refine SCall.mono (wants_spec hP S) ?_; rintro v_ L_ ⟨hv_, hL_⟩; rw [hv_, hL_]; clear hv_ hL_ v_ L_) | refine ⟨by omega, ?_⟩ | refine ⟨_, Cell.at 0 rfl rfl, ?_⟩ | refine ⟨_, Cell.at 1 rfl rfl, ?_⟩ | fail); try simp (maxSteps := 1000000) only [ΦU,Φy,Φz,ΦI,ev,Φi,Φu,Φn,Φo,Φx,Φw,Φa,Φp,reduceIte,reduceCtorEq,if_true,if_false,Φq,Φk,Φb,Φc,true_and,and_true,false_and,and_false,true_implies,forall_const,false_implies,ne_eq,not_true_eq_false,not_false_eq_true,decide_true,decide_false,Φv,and_self,true_or,or_true,dite_true,dite_false,Φe,Φd,decide_eq_true_eq,decide_eq_false_iff_not,Φf,Φh,Φg,Φj,beq_self_eq_true,Φr,Φs,Φt,Φl,Φm,eq_self,Ψx,Ψl,Ψm,VCops,VQops,Ψv,putVC,VC,VQ,ΦV,ΦW,ΦN,ΦO,ΦE,ΦF,ΦJ,List.getElem?_cons_zero,List.getElem?_cons_succ,List.getElem?_nil,List.getElem?_toArray,Ψc,Ψi,ΦP,ΦA,ΦB,ΦT,ΦM,ΦX,ΦK,ΦQ,ΦR,ΦY,ΦG,ΦH,ΦZ,ΦC,ΦD,Ψa,ΦL,Ψj,ΦS,Ψb,Ψd,Ψe,Ψg,Ψh,Ψn,exists_eq_left,exists_eq_left',exists_const,Ψs,Ψo,Ψp,fa_ptr,Ψu,Ψq,Ψw,Ψf,Ψr,Ψt,Ψk,T.elA_49,T.lay_49,T.szA_49,T.zr_49,Tryd.underlying49,ld_ptr,loadVC,loadN,T.szA_4,T.zr_4,Tryd.underlying4,pick_bool,hP,h3_3,h3_11]) | fail)
      all_goals
        refine hK4 () _ (some (bd, .cells #[.int .u8 code, .int .u16 ad, .bool rd, .bool wr, .bool own, .int .u8 data, .int .u8 port, .bool pulse] 49 (0, 0)) :: some (bx, .cells #[.int .i64 l, .int .i64 c, .bool o, .int .i64 g] 24 (0, 0)) :: L) _ (by first | exact Less.refl _ | exact Less.drop _ _ | exact Less.drops (Less.drop _ _) | exact Less.drops (Less.drops (Less.drop _ _)) | exact Less.drops (Less.drops (Less.drops (Less.drop _ _))) | exact Less.drops (Less.drops (Less.drops (Less.drops (Less.drop _ _))))) ?_
        try dsimp only
        refine ⟨?_, ?_, ?_⟩
        · simp (maxSteps := 1000000) only [ΦU,Φy,Φz,ΦI,ev,Φi,Φu,Φn,Φo,Φx,Φw,Φa,Φp,reduceIte,reduceCtorEq,if_true,if_false,Φq,Φk,Φb,Φc,true_and,and_true,false_and,and_false,true_implies,forall_const,false_implies,ne_eq,not_true_eq_false,not_false_eq_true,decide_true,decide_false,Φv,and_self,true_or,or_true,dite_true,dite_false,Φe,Φd,decide_eq_true_eq,decide_eq_false_iff_not,Φf,Φh,Φg,Φj,beq_self_eq_true,Φr,Φs,Φt,Φl,Φm,eq_self,hP,h3_3,h3_11]
          first | done | rfl | (rw [hg]; rfl) | simp [hg]
        · rfl
        · trivial
    · intro ss T4 L4 hI
      obtain ⟨h4_15, hL4, hinv⟩ := hI
      replace hL4 := hL4.symm
      subst hL4
      clear h3_3 h3_11 T3
      refine RX.done ?_
      simp (maxSteps := 1000000) only [ΦU,Φy,Φz,ΦI,ev,Φi,Φu,Φn,Φo,Φx,Φw,Φa,Φp,reduceIte,reduceCtorEq,if_true,if_false,Φq,Φk,Φb,Φc,true_and,and_true,false_and,and_false,true_implies,forall_const,false_implies,ne_eq,not_true_eq_false,not_false_eq_true,decide_true,decide_false,Φv,and_self,true_or,or_true,dite_true,dite_false,Φe,Φd,decide_eq_true_eq,decide_eq_false_iff_not,Φf,Φh,Φg,Φj,beq_self_eq_true,Φr,Φs,Φt,Φl,Φm,eq_self,Ψx,Ψl,Ψm,VCops,VQops,Ψv,putVC,VC,VQ,ΦV,ΦW,ΦN,ΦO,ΦE,ΦF,ΦJ,List.getElem?_cons_zero,List.getElem?_cons_succ,List.getElem?_nil,List.getElem?_toArray,Ψc,Ψi,ΦP,ΦA,ΦB,ΦT,ΦM,ΦX,ΦK,ΦQ,ΦR,ΦY,ΦG,ΦH,ΦZ,ΦC,ΦD,Ψa,ΦL,Ψj,ΦS,Ψb,Ψd,Ψe,Ψg,Ψh,Ψn,exists_eq_left,exists_eq_left',exists_const,Ψs,Ψo,Ψp,hP,h4_15]
      refine hK2 _ _ ?_
      try clear hK2 K2
      refine SX.ret ?_
      simp only [Φi, Φu, Φn, Φo, Φx, Φw, Φa, if_true, if_false, reduceIte, retQ_ret]
      try simp only [res0,res1,res2,res3,ΦU,Φy,Φz,ΦI,ev,Φi,Φu,Φn,Φo,Φx,Φw,Φa,Φp,reduceIte,reduceCtorEq,if_true,if_false,Φq,Φk,Φb,Φc,true_and,and_true,false_and,and_false,true_implies,forall_const,false_implies,ne_eq,not_true_eq_false,not_false_eq_true,decide_true,decide_false,Φv,and_self,true_or,or_true,dite_true,dite_false,Φe,Φd,decide_eq_true_eq,decide_eq_false_iff_not,Φf,Φh,Φg,Φj,beq_self_eq_true,Φr,Φs,Φt,Φl,Φm,eq_self,hP,h4_15]
      exact ⟨_, L, (by first | exact Less.refl _ | exact Less.drop _ _ | exact Less.drops (Less.drop _ _) | exact Less.drops (Less.drops (Less.drop _ _)) | exact Less.drops (Less.drops (Less.drops (Less.drop _ _))) | exact Less.drops (Less.drops (Less.drops (Less.drops (Less.drop _ _))))), rfl, rfl, rfl⟩
theorem tm262 {l : Int} (h0 : 0 ≤ l) (h1 : l < 262) : Int.tmod (l + 1) 262 = if l + 1 = 262 then 0 else l + 1 := by
  rw [Int.tmod_eq_emod_of_nonneg (by omega)]
  split <;> omega
set_option maxHeartbeats 1000000 in
set_option maxRecDepth 100000 in
theorem Step_spec {Γ : Ctx} (hP : Γ.P = Tryd.prog) {L : Hp} {l c g : Int} {o : Bool} {code ad data port : Int} {rd wr own pulse : Bool} {m : Int} (S : SH Γ) :
    SCall Γ 31 #[(.agg #[.int .i64 l, .int .i64 c, .bool o, .int .i64 g]), (.agg #[.int .u8 code, .int .u16 ad, .bool rd, .bool wr, .bool own, .int .u8 data, .int .u8 port, .bool pulse]), (.int .u8 m)] L (fun v L' => v = rv (step l c o g code port rd wr m) ∧ L' = L) := by
  refine SCall.enter (n := 57) (resX Γ [.cell 6 24]) (hP ▸ Tryd.func31) rfl rfl (by simp) (resX_ok rfl) ?_
  refine SX.seq_k fun K1 hK1 => ?_
  refine SX.region ?_
  simp (maxSteps := 1000000) only [ΦU,Φy,Φz,ΦI,ev,Φi,Φu,Φn,Φo,Φx,Φw,Φa,Φp,reduceIte,reduceCtorEq,if_true,if_false,Φq,Φk,Φb,Φc,true_and,and_true,false_and,and_false,true_implies,forall_const,false_implies,ne_eq,not_true_eq_false,not_false_eq_true,decide_true,decide_false,Φv,and_self,true_or,or_true,dite_true,dite_false,Φe,Φd,decide_eq_true_eq,decide_eq_false_iff_not,Φf,Φh,Φg,Φj,beq_self_eq_true,Φr,Φs,Φt,Φl,Φm,eq_self,Ψx,Ψl,Ψm,VCops,VQops,Ψv,putVC,VC,VQ,ΦV,ΦW,ΦN,ΦO,ΦE,ΦF,ΦJ,List.getElem?_cons_zero,List.getElem?_cons_succ,List.getElem?_nil,List.getElem?_toArray,Ψc,Ψi,ΦP,ΦA,ΦB,ΦT,ΦM,ΦX,ΦK,ΦQ,ΦR,ΦY,ΦG,ΦH,ΦZ,ΦC,ΦD,Ψa,ΦL,Ψj,ΦS,Ψb,Ψd,Ψe,Ψg,Ψh,Ψn,exists_eq_left,exists_eq_left',exists_const,Ψs,Ψo,Ψp,cells_int,cells_bool,ΨB,Ψz,ΨD,cells_agg,oneB_nil,oneB_cons,one_int,one_bool,one_string,ΨE,one_slice,one_map,one_func,ΨF,ΨC,one_iface,cells_map,cells_func,ΨA,Ψy,ΨG,T.elA_24,T.lay_24,T.szA_24,T.zr_24,Tryd.underlying24,T.elA_49,T.lay_49,T.szA_49,T.zr_49,Tryd.underlying49,hP]
  intro bx bd br
  refine hK1 _ _ ?_
  try clear hK1 K1
  refine SX.seq_k fun K2 hK2 => ?_
  refine SX.seq_k fun K3 hK3 => ?_
  refine SX.region_x ?_
  refine RX.live [2, 3, 4, 6] (fun T1 hT1 => ?_)
  simp only [ΨH,forall_mem_nil',ΦU,Φy,Φz,ΦI,ev,Φi,Φu,Φn,Φo,Φx,Φw,Φa,Φp,reduceIte,reduceCtorEq,if_true,if_false,Φq,Φk,Φb,Φc,true_and,and_true,false_and,and_false,true_implies,forall_const,false_implies,ne_eq,not_true_eq_false,not_false_eq_true,decide_true,decide_false,Φv,and_self,true_or,or_true,dite_true,dite_false,Φe,Φd,decide_eq_true_eq,decide_eq_false_iff_not,Φf,Φh,Φg,Φj,beq_self_eq_true,Φr,Φs,Φt,Φl,Φm,eq_self,hP] at hT1
  obtain ⟨h1_2, h1_3, h1_4, h1_6⟩ := hT1
  refine RX.join 7 (fun (ss : Unit) T L' => T 13 = .bool (!okB l c g || decide (3 < m)) ∧ T 2 = T1 2 ∧ T 3 = T1 3 ∧ T 4 = T1 4 ∧ T 6 = T1 6 ∧ L' = some (br, .cells #[.int .i64 0, .int .i64 0, .bool false, .int .i64 0] 24 (0, 0)) :: some (bd, .cells #[.int .u8 code, .int .u16 ad, .bool rd, .bool wr, .bool own, .int .u8 data, .int .u8 port, .bool pulse] 49 (0, 0)) :: some (bx, .cells #[.int .i64 l, .int .i64 c, .bool o, .int .i64 g] 24 (0, 0)) :: L ∧ (True)) (fun K4 hK4 => ?_) ?_
  · simp only [h1_2, h1_3, h1_4, h1_6] at hK4
    simp (maxSteps := 1000000) only [ΦU,Φy,Φz,ΦI,ev,Φi,Φu,Φn,Φo,Φx,Φw,Φa,Φp,reduceIte,reduceCtorEq,if_true,if_false,Φq,Φk,Φb,Φc,true_and,and_true,false_and,and_false,true_implies,forall_const,false_implies,ne_eq,not_true_eq_false,not_false_eq_true,decide_true,decide_false,Φv,and_self,true_or,or_true,dite_true,dite_false,Φe,Φd,decide_eq_true_eq,decide_eq_false_iff_not,Φf,Φh,Φg,Φj,beq_self_eq_true,Φr,Φs,Φt,Φl,Φm,eq_self,Ψx,Ψl,Ψm,VCops,VQops,Ψv,putVC,VC,VQ,ΦV,ΦW,ΦN,ΦO,ΦE,ΦF,ΦJ,List.getElem?_cons_zero,List.getElem?_cons_succ,List.getElem?_nil,List.getElem?_toArray,Ψc,Ψi,ΦP,ΦA,ΦB,ΦT,ΦM,ΦX,ΦK,ΦQ,ΦR,ΦY,ΦG,ΦH,ΦZ,ΦC,ΦD,Ψa,ΦL,Ψj,ΦS,Ψb,Ψd,Ψe,Ψg,Ψh,Ψn,exists_eq_left,exists_eq_left',exists_const,Ψs,Ψo,Ψp,ld_ptr,loadVC,loadN,Ψu,Ψq,Ψw,Ψf,Ψr,Ψt,Ψk,T.elA_24,T.lay_24,T.szA_24,T.zr_24,Tryd.underlying24,qcall_f,call_f,len_slice,len_str,cap_slice,min_int,max_int,T.callable_27,bin_neq,bin_neqb,bin_neqs,bin_neqa,T.szA_31,T.zr_31,Tryd.underlying31,bin_gtr,pick_bool,hP,h1_2,h1_3,h1_4,h1_6,chk_zero]
    repeat' (first | refine iteB (fun hg => ?_) (fun hg => ?_) | refine iteI (fun hg => ?_) (fun hg => ?_) | ((first | (refine SCall.mono (Check_spec hP S) ?_; rintro v_ L_ ⟨hv_, hL_⟩; rw [hv_, hL_]; clear hv_ hL_ v_ L_) | refine ⟨by omega, ?_⟩ | refine ⟨_, Cell.at 0 rfl rfl, _, Cell.at 0 rfl rfl, _, Cell.at 0 rfl rfl, _, Cell.at 0 rfl rfl, ?_⟩ | refine ⟨_, Cell.at 1 rfl rfl, _, Cell.at 1 rfl rfl, _, Cell.at 1 rfl rfl, _, Cell.at 1 rfl rfl, ?_⟩ | refine ⟨_, Cell.at 2 rfl rfl, _, Cell.at 2 rfl rfl, _, Cell.at 2 rfl rfl, _, Cell.at 2 rfl rfl, ?_⟩ | refine ⟨_, Cell.at 0 rfl rfl, ?_⟩ | refine ⟨_, Cell.at 1 rfl rfl, ?_⟩ | refine ⟨_, Cell.at 2 rfl rfl, ?_⟩ | fail); try simp (maxSteps := 1000000) only [ΦU,Φy,Φz,ΦI,ev,Φi,Φu,Φn,Φo,Φx,Φw,Φa,Φp,reduceIte,reduceCtorEq,if_true,if_false,Φq,Φk,Φb,Φc,true_and,and_true,false_and,and_false,true_implies,forall_const,false_implies,ne_eq,not_true_eq_false,not_false_eq_true,decide_true,decide_false,Φv,and_self,true_or,or_true,dite_true,dite_false,Φe,Φd,decide_eq_true_eq,decide_eq_false_iff_not,Φf,Φh,Φg,Φj,beq_self_eq_true,Φr,Φs,Φt,Φl,Φm,eq_self,Ψx,Ψl,Ψm,VCops,VQops,Ψv,putVC,VC,VQ,ΦV,ΦW,ΦN,ΦO,ΦE,ΦF,ΦJ,List.getElem?_cons_zero,List.getElem?_cons_succ,List.getElem?_nil,List.getElem?_toArray,Ψc,Ψi,ΦP,ΦA,ΦB,ΦT,ΦM,ΦX,ΦK,ΦQ,ΦR,ΦY,ΦG,ΦH,ΦZ,ΦC,ΦD,Ψa,ΦL,Ψj,ΦS,Ψb,Ψd,Ψe,Ψg,Ψh,Ψn,exists_eq_left,exists_eq_left',exists_const,Ψs,Ψo,Ψp,ld_ptr,loadVC,loadN,Ψu,Ψq,Ψw,Ψf,Ψr,Ψt,Ψk,T.elA_24,T.lay_24,T.szA_24,T.zr_24,Tryd.underlying24,qcall_f,call_f,len_slice,len_str,cap_slice,min_int,max_int,T.callable_27,bin_neq,bin_neqb,bin_neqs,bin_neqa,T.szA_31,T.zr_31,Tryd.underlying31,bin_gtr,pick_bool,hP,h1_2,h1_3,h1_4,h1_6,chk_zero]) | fail)
    all_goals
      refine hK4 () _ (some (br, .cells #[.int .i64 0, .int .i64 0, .bool false, .int .i64 0] 24 (0, 0)) :: some (bd, .cells #[.int .u8 code, .int .u16 ad, .bool rd, .bool wr, .bool own, .int .u8 data, .int .u8 port, .bool pulse] 49 (0, 0)) :: some (bx, .cells #[.int .i64 l, .int .i64 c, .bool o, .int .i64 g] 24 (0, 0)) :: L) _ (by first | exact Less.refl _ | exact Less.drop _ _ | exact Less.drops (Less.drop _ _) | exact Less.drops (Less.drops (Less.drop _ _)) | exact Less.drops (Less.drops (Less.drops (Less.drop _ _))) | exact Less.drops (Less.drops (Less.drops (Less.drops (Less.drop _ _))))) ?_
      try dsimp only
      refine ⟨?_, ?_, ?_, ?_, ?_, ?_, ?_⟩
      · simp (maxSteps := 1000000) only [ΦU,Φy,Φz,ΦI,ev,Φi,Φu,Φn,Φo,Φx,Φw,Φa,Φp,reduceIte,reduceCtorEq,if_true,if_false,Φq,Φk,Φb,Φc,true_and,and_true,false_and,and_false,true_implies,forall_const,false_implies,ne_eq,not_true_eq_false,not_false_eq_true,decide_true,decide_false,Φv,and_self,true_or,or_true,dite_true,dite_false,Φe,Φd,decide_eq_true_eq,decide_eq_false_iff_not,Φf,Φh,Φg,Φj,beq_self_eq_true,Φr,Φs,Φt,Φl,Φm,eq_self,hP,h1_2,h1_3,h1_4,h1_6]
        first | done | simp [*]
      · simp (maxSteps := 1000000) only [ΦU,Φy,Φz,ΦI,ev,Φi,Φu,Φn,Φo,Φx,Φw,Φa,Φp,reduceIte,reduceCtorEq,if_true,if_false,Φq,Φk,Φb,Φc,true_and,and_true,false_and,and_false,true_implies,forall_const,false_implies,ne_eq,not_true_eq_false,not_false_eq_true,decide_true,decide_false,Φv,and_self,true_or,or_true,dite_true,dite_false,Φe,Φd,decide_eq_true_eq,decide_eq_false_iff_not,Φf,Φh,Φg,Φj,beq_self_eq_true,Φr,Φs,Φt,Φl,Φm,eq_self,hP,h1_2,h1_3,h1_4,h1_6]
      · simp (maxSteps := 1000000) only [ΦU,Φy,Φz,ΦI,ev,Φi,Φu,Φn,Φo,Φx,Φw,Φa,Φp,reduceIte,reduceCtorEq,if_true,if_false,Φq,Φk,Φb,Φc,true_and,and_true,false_and,and_false,true_implies,forall_const,false_implies,ne_eq,not_true_eq_false,not_false_eq_true,decide_true,decide_false,Φv,and_self,true_or,or_true,dite_true,dite_false,Φe,Φd,decide_eq_true_eq,decide_eq_false_iff_not,Φf,Φh,Φg,Φj,beq_self_eq_true,Φr,Φs,Φt,Φl,Φm,eq_self,hP,h1_2,h1_3,h1_4,h1_6]
      · simp (maxSteps := 1000000) only [ΦU,Φy,Φz,ΦI,ev,Φi,Φu,Φn,Φo,Φx,Φw,Φa,Φp,reduceIte,reduceCtorEq,if_true,if_false,Φq,Φk,Φb,Φc,true_and,and_true,false_and,and_false,true_implies,forall_const,false_implies,ne_eq,not_true_eq_false,not_false_eq_true,decide_true,decide_false,Φv,and_self,true_or,or_true,dite_true,dite_false,Φe,Φd,decide_eq_true_eq,decide_eq_false_iff_not,Φf,Φh,Φg,Φj,beq_self_eq_true,Φr,Φs,Φt,Φl,Φm,eq_self,hP,h1_2,h1_3,h1_4,h1_6]
      · simp (maxSteps := 1000000) only [ΦU,Φy,Φz,ΦI,ev,Φi,Φu,Φn,Φo,Φx,Φw,Φa,Φp,reduceIte,reduceCtorEq,if_true,if_false,Φq,Φk,Φb,Φc,true_and,and_true,false_and,and_false,true_implies,forall_const,false_implies,ne_eq,not_true_eq_false,not_false_eq_true,decide_true,decide_false,Φv,and_self,true_or,or_true,dite_true,dite_false,Φe,Φd,decide_eq_true_eq,decide_eq_false_iff_not,Φf,Φh,Φg,Φj,beq_self_eq_true,Φr,Φs,Φt,Φl,Φm,eq_self,hP,h1_2,h1_3,h1_4,h1_6]
      · rfl
      · trivial
  · intro ss T2 L2 hI
    simp only [h1_2, h1_3, h1_4, h1_6] at hI 
    obtain ⟨h2_13, h2_2, h2_3, h2_4, h2_6, hL2, hinv⟩ := hI
    replace hL2 := hL2.symm
    subst hL2
    clear h1_2 h1_3 h1_4 h1_6 T1
    refine RX.done ?_
    simp (maxSteps := 1000000) only [ΦU,Φy,Φz,ΦI,ev,Φi,Φu,Φn,Φo,Φx,Φw,Φa,Φp,reduceIte,reduceCtorEq,if_true,if_false,Φq,Φk,Φb,Φc,true_and,and_true,false_and,and_false,true_implies,forall_const,false_implies,ne_eq,not_true_eq_false,not_false_eq_true,decide_true,decide_false,Φv,and_self,true_or,or_true,dite_true,dite_false,Φe,Φd,decide_eq_true_eq,decide_eq_false_iff_not,Φf,Φh,Φg,Φj,beq_self_eq_true,Φr,Φs,Φt,Φl,Φm,eq_self,Ψx,Ψl,Ψm,VCops,VQops,Ψv,putVC,VC,VQ,ΦV,ΦW,ΦN,ΦO,ΦE,ΦF,ΦJ,List.getElem?_cons_zero,List.getElem?_cons_succ,List.getElem?_nil,List.getElem?_toArray,Ψc,Ψi,ΦP,ΦA,ΦB,ΦT,ΦM,ΦX,ΦK,ΦQ,ΦR,ΦY,ΦG,ΦH,ΦZ,ΦC,ΦD,Ψa,ΦL,Ψj,ΦS,Ψb,Ψd,Ψe,Ψg,Ψh,Ψn,exists_eq_left,exists_eq_left',exists_const,Ψs,Ψo,Ψp,hP,h2_13,h2_2,h2_3,h2_4,h2_6]
    refine hK3 _ _ ?_
    try clear hK3 K3
    refine SX.cond_k fun X5 Y5 hX5 hY5 => ?_
    simp (maxSteps := 1000000) only [ΦU,Φy,Φz,ΦI,ev,Φi,Φu,Φn,Φo,Φx,Φw,Φa,Φp,reduceIte,reduceCtorEq,if_true,if_false,Φq,Φk,Φb,Φc,true_and,and_true,false_and,and_false,true_implies,forall_const,false_implies,ne_eq,not_true_eq_false,not_false_eq_true,decide_true,decide_false,Φv,and_self,true_or,or_true,dite_true,dite_false,Φe,Φd,decide_eq_true_eq,decide_eq_false_iff_not,Φf,Φh,Φg,Φj,beq_self_eq_true,Φr,Φs,Φt,Φl,Φm,eq_self,hP,h2_13,h2_2,h2_3,h2_4,h2_6,condVC]
    refine ⟨fun hc13 => hX5 ?_, fun hc13 => hY5 ?_⟩
    · clear hX5 hY5 X5 Y5
      have hn : ¬ (okB l c g = true ∧ m ≤ 3) := by rintro ⟨h1, h2⟩; rw [h1, decide_eq_false (by omega)] at hc13; exact absurd hc13 (by decide)
      refine SX.seq_k fun K6 hK6 => ?_
      refine SX.region ?_
      simp (maxSteps := 1000000) only [ΦU,Φy,Φz,ΦI,ev,Φi,Φu,Φn,Φo,Φx,Φw,Φa,Φp,reduceIte,reduceCtorEq,if_true,if_false,Φq,Φk,Φb,Φc,true_and,and_true,false_and,and_false,true_implies,forall_const,false_implies,ne_eq,not_true_eq_false,not_false_eq_true,decide_true,decide_false,Φv,and_self,true_or,or_true,dite_true,dite_false,Φe,Φd,decide_eq_true_eq,decide_eq_false_iff_not,Φf,Φh,Φg,Φj,beq_self_eq_true,Φr,Φs,Φt,Φl,Φm,eq_self,Ψx,Ψl,Ψm,VCops,VQops,Ψv,putVC,VC,VQ,ΦV,ΦW,ΦN,ΦO,ΦE,ΦF,ΦJ,List.getElem?_cons_zero,List.getElem?_cons_succ,List.getElem?_nil,List.getElem?_toArray,Ψc,Ψi,ΦP,ΦA,ΦB,ΦT,ΦM,ΦX,ΦK,ΦQ,ΦR,ΦY,ΦG,ΦH,ΦZ,ΦC,ΦD,Ψa,ΦL,Ψj,ΦS,Ψb,Ψd,Ψe,Ψg,Ψh,Ψn,exists_eq_left,exists_eq_left',exists_const,Ψs,Ψo,Ψp,partVC,buildVC,placeL,fillL,setN,cells_int,cells_bool,ΨB,Ψz,ΨD,cells_agg,oneB_nil,oneB_cons,one_int,one_bool,one_string,ΨE,one_slice,one_map,one_func,ΨF,ΨC,one_iface,cells_map,cells_func,ΨA,Ψy,ΨG,T.elA_24,T.lay_24,T.szA_24,T.zr_24,Tryd.underlying24,st_ptr,storeVC,Ψu,Ψq,Ψw,Ψf,Ψr,Ψt,Ψk,hP,h2_13,h2_2,h2_3,h2_4,h2_6]
      refine ⟨0, _, _, _, rfl, by first | decide | simp, .inr (by first | decide | simp), ?_⟩
      try simp (maxSteps := 1000000) only [ΦU,Φy,Φz,ΦI,ev,Φi,Φu,Φn,Φo,Φx,Φw,Φa,Φp,reduceIte,reduceCtorEq,if_true,if_false,Φq,Φk,Φb,Φc,true_and,and_true,false_and,and_false,true_implies,forall_const,false_implies,ne_eq,not_true_eq_false,not_false_eq_true,decide_true,decide_false,Φv,and_self,true_or,or_true,dite_true,dite_false,Φe,Φd,decide_eq_true_eq,decide_eq_false_iff_not,Φf,Φh,Φg,Φj,beq_self_eq_true,Φr,Φs,Φt,Φl,Φm,eq_self,Ψx,Ψl,Ψm,VCops,VQops,Ψv,putVC,VC,VQ,ΦV,ΦW,ΦN,ΦO,ΦE,ΦF,ΦJ,List.getElem?_cons_zero,List.getElem?_cons_succ,List.getElem?_nil,List.getElem?_toArray,Ψc,Ψi,ΦP,ΦA,ΦB,ΦT,ΦM,ΦX,ΦK,ΦQ,ΦR,ΦY,ΦG,ΦH,ΦZ,ΦC,ΦD,Ψa,ΦL,Ψj,ΦS,Ψb,Ψd,Ψe,Ψg,Ψh,Ψn,exists_eq_left,exists_eq_left',exists_const,Ψs,Ψo,Ψp,partVC,buildVC,placeL,fillL,setN,cells_int,cells_bool,ΨB,Ψz,ΨD,cells_agg,oneB_nil,oneB_cons,one_int,one_bool,one_string,ΨE,one_slice,one_map,one_func,ΨF,ΨC,one_iface,cells_map,cells_func,ΨA,Ψy,ΨG,T.elA_24,T.lay_24,T.szA_24,T.zr_24,Tryd.underlying24,st_ptr,storeVC,Ψu,Ψq,Ψw,Ψf,Ψr,Ψt,Ψk,hP,h2_13,h2_2,h2_3,h2_4,h2_6]
      refine hK6 _ _ ?_
      try clear hK6 K6
      refine SX.ret ?_
      simp only [Φi, Φu, Φn, Φo, Φx, Φw, Φa, if_true, if_false, reduceIte, retQ_ret]
      try simp only [res0,res1,res2,res3,resX,resK,oneOr,ld_ptr,loadVC,loadN,ΦT,ΦM,Ψb,Ψg,Ψh,Ψu,Ψq,Ψw,T.elA_24,T.lay_24,T.szA_24,T.zr_24,Tryd.underlying24,ΦU,Φy,Φz,ΦI,ev,Φi,Φu,Φn,Φo,Φx,Φw,Φa,Φp,reduceIte,reduceCtorEq,if_true,if_false,Φq,Φk,Φb,Φc,true_and,and_true,false_and,and_false,true_implies,forall_const,false_implies,ne_eq,not_true_eq_false,not_false_eq_true,decide_true,decide_false,Φv,and_self,true_or,or_true,dite_true,dite_false,Φe,Φd,decide_eq_true_eq,decide_eq_false_iff_not,Φf,Φh,Φg,Φj,beq_self_eq_true,Φr,Φs,Φt,Φl,Φm,eq_self,hP,h2_13,h2_2,h2_3,h2_4,h2_6]
      refine ⟨_, L, (by first | exact Less.refl _ | exact Less.drop _ _ | exact Less.drops (Less.drop _ _) | exact Less.drops (Less.drops (Less.drop _ _)) | exact Less.drops (Less.drops (Less.drops (Less.drop _ _))) | exact Less.drops (Less.drops (Less.drops (Less.drops (Less.drop _ _))))), ⟨_, Cell.at 0 rfl rfl, _, Cell.at 0 rfl rfl, _, Cell.at 0 rfl rfl, _, Cell.at 0 rfl rfl, rfl⟩, ?_, rfl⟩
      rw [step, if_neg hn]
    · clear hX5 hY5 X5 Y5
      obtain ⟨hok, hm3⟩ : okB l c g = true ∧ m ≤ 3 := by simpa using hc13
      have hk := of_decide_eq_true hok
      have w1 : IntKind.i64.wrap (g + 1) = g + 1 := w64 (by omega)
      have w2 : IntKind.i64.wrap (c + 1) = c + 1 := w64 (by omega)
      have w3 : IntKind.i64.wrap (l + 1) = l + 1 := w64 (by omega)
      refine SX.skip ?_
      simp only [Φi, Φu, Φn, Φo, Φx, Φw, Φa, if_true, if_false, reduceIte]
      refine hK2 _ _ ?_
      try clear hK2 K2
      refine SX.live [2, 3, 4, 6] (fun T3 hT3 => ?_)
      simp only [ΨH,forall_mem_nil',ΦU,Φy,Φz,ΦI,ev,Φi,Φu,Φn,Φo,Φx,Φw,Φa,Φp,reduceIte,reduceCtorEq,if_true,if_false,Φq,Φk,Φb,Φc,true_and,and_true,false_and,and_false,true_implies,forall_const,false_implies,ne_eq,not_true_eq_false,not_false_eq_true,decide_true,decide_false,Φv,and_self,true_or,or_true,dite_true,dite_false,Φe,Φd,decide_eq_true_eq,decide_eq_false_iff_not,Φf,Φh,Φg,Φj,beq_self_eq_true,Φr,Φs,Φt,Φl,Φm,eq_self,hP,h2_13,h2_2,h2_3,h2_4,h2_6] at hT3
      obtain ⟨h3_2, h3_3, h3_4, h3_6⟩ := hT3
      clear h2_13 h2_2 h2_3 h2_4 h2_6 T2
      refine SX.join (fun (ss : (Int)) T L' => (fun (g1 : Int) => T 2 = T3 2 ∧ T 3 = T3 3 ∧ T 4 = T3 4 ∧ T 6 = T3 6 ∧ L' = some (br, .cells #[.int .i64 0, .int .i64 0, .bool false, .int .i64 0] 24 (0, 0)) :: some (bd, .cells #[.int .u8 code, .int .u16 ad, .bool rd, .bool wr, .bool own, .int .u8 data, .int .u8 port, .bool pulse] 49 (0, 0)) :: some (bx, .cells #[.int .i64 l, .int .i64 c, .bool o, .int .i64 g1] 24 (0, 0)) :: L ∧ (g1 = if tB l c o g code rd = true then g + 1 else g)) (ss)) (fun K7 hK7 => ?_) ?_
      · simp only [h3_2, h3_3, h3_4, h3_6] at hK7
        refine SX.seq_k fun K8 hK8 => ?_
        refine SX.region_x ?_
        refine RX.live [2, 3, 4, 6] (fun T4 hT4 => ?_)
        simp only [ΨH,forall_mem_nil',ΦU,Φy,Φz,ΦI,ev,Φi,Φu,Φn,Φo,Φx,Φw,Φa,Φp,reduceIte,reduceCtorEq,if_true,if_false,Φq,Φk,Φb,Φc,true_and,and_true,false_and,and_false,true_implies,forall_const,false_implies,ne_eq,not_true_eq_false,not_false_eq_true,decide_true,decide_false,Φv,and_self,true_or,or_true,dite_true,dite_false,Φe,Φd,decide_eq_true_eq,decide_eq_false_iff_not,Φf,Φh,Φg,Φj,beq_self_eq_true,Φr,Φs,Φt,Φl,Φm,eq_self,hP,h3_2,h3_3,h3_4,h3_6] at hT4
        obtain ⟨h4_2, h4_3, h4_4, h4_6⟩ := hT4
        clear h3_2 h3_3 h3_4 h3_6 T3
        refine RX.join 3 (fun (ss : Unit) T L' => T 17 = .bool (tB l c o g code rd) ∧ T 2 = T4 2 ∧ T 3 = T4 3 ∧ T 4 = T4 4 ∧ T 6 = T4 6 ∧ L' = some (br, .cells #[.int .i64 0, .int .i64 0, .bool false, .int .i64 0] 24 (0, 0)) :: some (bd, .cells #[.int .u8 code, .int .u16 ad, .bool rd, .bool wr, .bool own, .int .u8 data, .int .u8 port, .bool pulse] 49 (0, 0)) :: some (bx, .cells #[.int .i64 l, .int .i64 c, .bool o, .int .i64 g] 24 (0, 0)) :: L ∧ (True)) (fun K9 hK9 => ?_) ?_
        · simp only [h4_2, h4_3, h4_4, h4_6] at hK9
          simp (maxSteps := 1000000) only [ΦU,Φy,Φz,ΦI,ev,Φi,Φu,Φn,Φo,Φx,Φw,Φa,Φp,reduceIte,reduceCtorEq,if_true,if_false,Φq,Φk,Φb,Φc,true_and,and_true,false_and,and_false,true_implies,forall_const,false_implies,ne_eq,not_true_eq_false,not_false_eq_true,decide_true,decide_false,Φv,and_self,true_or,or_true,dite_true,dite_false,Φe,Φd,decide_eq_true_eq,decide_eq_false_iff_not,Φf,Φh,Φg,Φj,beq_self_eq_true,Φr,Φs,Φt,Φl,Φm,eq_self,Ψx,Ψl,Ψm,VCops,VQops,Ψv,putVC,VC,VQ,ΦV,ΦW,ΦN,ΦO,ΦE,ΦF,ΦJ,List.getElem?_cons_zero,List.getElem?_cons_succ,List.getElem?_nil,List.getElem?_toArray,Ψc,Ψi,ΦP,ΦA,ΦB,ΦT,ΦM,ΦX,ΦK,ΦQ,ΦR,ΦY,ΦG,ΦH,ΦZ,ΦC,ΦD,Ψa,ΦL,Ψj,ΦS,Ψb,Ψd,Ψe,Ψg,Ψh,Ψn,exists_eq_left,exists_eq_left',exists_const,Ψs,Ψo,Ψp,ld_ptr,loadVC,loadN,Ψu,Ψq,Ψw,Ψf,Ψr,Ψt,Ψk,T.elA_24,T.lay_24,T.szA_24,T.zr_24,Tryd.underlying24,T.elA_49,T.lay_49,T.szA_49,T.zr_49,Tryd.underlying49,qcall_f,call_f,len_slice,len_str,cap_slice,min_int,max_int,T.callable_30,hP,h4_2,h4_3,h4_4,h4_6]
          repeat' (first | refine iteB (fun hg => ?_) (fun hg => ?_) | refine iteI (fun hg => ?_) (fun hg => ?_) | ((first | (refine SCall.mono (Takes_spec hP S) ?_; rintro v_ L_ ⟨hv_, hL_⟩; rw [hv_, hL_]; clear hv_ hL_ v_ L_) | refine ⟨by omega, ?_⟩ | refine ⟨_, Cell.at 0 rfl rfl, _, Cell.at 0 rfl rfl, _, Cell.at 0 rfl rfl, _, Cell.at 0 rfl rfl, _, Cell.at 0 rfl rfl, _, Cell.at 0 rfl rfl, _, Cell.at 0 rfl rfl, _, Cell.at 0 rfl rfl, ?_⟩ | refine ⟨_, Cell.at 1 rfl rfl, _, Cell.at 1 rfl rfl, _, Cell.at 1 rfl rfl, _, Cell.at 1 rfl rfl, _, Cell.at 1 rfl rfl, _, Cell.at 1 rfl rfl, _, Cell.at 1 rfl rfl, _, Cell.at 1 rfl rfl, ?_⟩ | refine ⟨_, Cell.at 2 rfl rfl, _, Cell.at 2 rfl rfl, _, Cell.at 2 rfl rfl, _, Cell.at 2 rfl rfl, _, Cell.at 2 rfl rfl, _, Cell.at 2 rfl rfl, _, Cell.at 2 rfl rfl, _, Cell.at 2 rfl rfl, ?_⟩ | refine ⟨_, Cell.at 0 rfl rfl, _, Cell.at 0 rfl rfl, _, Cell.at 0 rfl rfl, _, Cell.at 0 rfl rfl, ?_⟩ | refine ⟨_, Cell.at 1 rfl rfl, _, Cell.at 1 rfl rfl, _, Cell.at 1 rfl rfl, _, Cell.at 1 rfl rfl, ?_⟩ | refine ⟨_, Cell.at 2 rfl rfl, _, Cell.at 2 rfl rfl, _, Cell.at 2 rfl rfl, _, Cell.at 2 rfl rfl, ?_⟩ | refine ⟨_, Cell.at 0 rfl rfl, ?_⟩ | refine ⟨_, Cell.at 1 rfl rfl, ?_⟩ | refine ⟨_, Cell.at 2 rfl rfl, ?_⟩ | fail); try simp (maxSteps := 1000000) only [ΦU,Φy,Φz,ΦI,ev,Φi,Φu,Φn,Φo,Φx,Φw,Φa,Φp,reduceIte,reduceCtorEq,if_true,if_false,Φq,Φk,Φb,Φc,true_and,and_true,false_and,and_false,true_implies,forall_const,false_implies,ne_eq,not_true_eq_false,not_false_eq_true,decide_true,decide_false,Φv,and_self,true_or,or_true,dite_true,dite_false,Φe,Φd,decide_eq_true_eq,decide_eq_false_iff_not,Φf,Φh,Φg,Φj,beq_self_eq_true,Φr,Φs,Φt,Φl,Φm,eq_self,Ψx,Ψl,Ψm,VCops,VQops,Ψv,putVC,VC,VQ,ΦV,ΦW,ΦN,ΦO,ΦE,ΦF,ΦJ,List.getElem?_cons_zero,List.getElem?_cons_succ,List.getElem?_nil,List.getElem?_toArray,Ψc,Ψi,ΦP,ΦA,ΦB,ΦT,ΦM,ΦX,ΦK,ΦQ,ΦR,ΦY,ΦG,ΦH,ΦZ,ΦC,ΦD,Ψa,ΦL,Ψj,ΦS,Ψb,Ψd,Ψe,Ψg,Ψh,Ψn,exists_eq_left,exists_eq_left',exists_const,Ψs,Ψo,Ψp,ld_ptr,loadVC,loadN,Ψu,Ψq,Ψw,Ψf,Ψr,Ψt,Ψk,T.elA_24,T.lay_24,T.szA_24,T.zr_24,Tryd.underlying24,T.elA_49,T.lay_49,T.szA_49,T.zr_49,Tryd.underlying49,qcall_f,call_f,len_slice,len_str,cap_slice,min_int,max_int,T.callable_30,hP,h4_2,h4_3,h4_4,h4_6]) | fail)
          all_goals
            refine hK9 () _ (some (br, .cells #[.int .i64 0, .int .i64 0, .bool false, .int .i64 0] 24 (0, 0)) :: some (bd, .cells #[.int .u8 code, .int .u16 ad, .bool rd, .bool wr, .bool own, .int .u8 data, .int .u8 port, .bool pulse] 49 (0, 0)) :: some (bx, .cells #[.int .i64 l, .int .i64 c, .bool o, .int .i64 g] 24 (0, 0)) :: L) _ (by first | exact Less.refl _ | exact Less.drop _ _ | exact Less.drops (Less.drop _ _) | exact Less.drops (Less.drops (Less.drop _ _)) | exact Less.drops (Less.drops (Less.drops (Less.drop _ _))) | exact Less.drops (Less.drops (Less.drops (Less.drops (Less.drop _ _))))) ?_
            try dsimp only
            refine ⟨?_, ?_, ?_, ?_, ?_, ?_, ?_⟩
            · simp (maxSteps := 1000000) only [ΦU,Φy,Φz,ΦI,ev,Φi,Φu,Φn,Φo,Φx,Φw,Φa,Φp,reduceIte,reduceCtorEq,if_true,if_false,Φq,Φk,Φb,Φc,true_and,and_true,false_and,and_false,true_implies,forall_const,false_implies,ne_eq,not_true_eq_false,not_false_eq_true,decide_true,decide_false,Φv,and_self,true_or,or_true,dite_true,dite_false,Φe,Φd,decide_eq_true_eq,decide_eq_false_iff_not,Φf,Φh,Φg,Φj,beq_self_eq_true,Φr,Φs,Φt,Φl,Φm,eq_self,hP,h4_2,h4_3,h4_4,h4_6]
              first | done | rfl
            · simp (maxSteps := 1000000) only [ΦU,Φy,Φz,ΦI,ev,Φi,Φu,Φn,Φo,Φx,Φw,Φa,Φp,reduceIte,reduceCtorEq,if_true,if_false,Φq,Φk,Φb,Φc,true_and,and_true,false_and,and_false,true_implies,forall_const,false_implies,ne_eq,not_true_eq_false,not_false_eq_true,decide_true,decide_false,Φv,and_self,true_or,or_true,dite_true,dite_false,Φe,Φd,decide_eq_true_eq,decide_eq_false_iff_not,Φf,Φh,Φg,Φj,beq_self_eq_true,Φr,Φs,Φt,Φl,Φm,eq_self,hP,h4_2,h4_3,h4_4,h4_6]
            · simp (maxSteps := 1000000) only [ΦU,Φy,Φz,ΦI,ev,Φi,Φu,Φn,Φo,Φx,Φw,Φa,Φp,reduceIte,reduceCtorEq,if_true,if_false,Φq,Φk,Φb,Φc,true_and,and_true,false_and,and_false,true_implies,forall_const,false_implies,ne_eq,not_true_eq_false,not_false_eq_true,decide_true,decide_false,Φv,and_self,true_or,or_true,dite_true,dite_false,Φe,Φd,decide_eq_true_eq,decide_eq_false_iff_not,Φf,Φh,Φg,Φj,beq_self_eq_true,Φr,Φs,Φt,Φl,Φm,eq_self,hP,h4_2,h4_3,h4_4,h4_6]
            · simp (maxSteps := 1000000) only [ΦU,Φy,Φz,ΦI,ev,Φi,Φu,Φn,Φo,Φx,Φw,Φa,Φp,reduceIte,reduceCtorEq,if_true,if_false,Φq,Φk,Φb,Φc,true_and,and_true,false_and,and_false,true_implies,forall_const,false_implies,ne_eq,not_true_eq_false,not_false_eq_true,decide_true,decide_false,Φv,and_self,true_or,or_true,dite_true,dite_false,Φe,Φd,decide_eq_true_eq,decide_eq_false_iff_not,Φf,Φh,Φg,Φj,beq_self_eq_true,Φr,Φs,Φt,Φl,Φm,eq_self,hP,h4_2,h4_3,h4_4,h4_6]
            · simp (maxSteps := 1000000) only [ΦU,Φy,Φz,ΦI,ev,Φi,Φu,Φn,Φo,Φx,Φw,Φa,Φp,reduceIte,reduceCtorEq,if_true,if_false,Φq,Φk,Φb,Φc,true_and,and_true,false_and,and_false,true_implies,forall_const,false_implies,ne_eq,not_true_eq_false,not_false_eq_true,decide_true,decide_false,Φv,and_self,true_or,or_true,dite_true,dite_false,Φe,Φd,decide_eq_true_eq,decide_eq_false_iff_not,Φf,Φh,Φg,Φj,beq_self_eq_true,Φr,Φs,Φt,Φl,Φm,eq_self,hP,h4_2,h4_3,h4_4,h4_6]
            · rfl
            · trivial
        · intro ss T5 L5 hI
          simp only [h4_2, h4_3, h4_4, h4_6] at hI 
          obtain ⟨h5_17, h5_2, h5_3, h5_4, h5_6, hL5, hinv⟩ := hI
          replace hL5 := hL5.symm
          subst hL5
          clear h4_2 h4_3 h4_4 h4_6 T4
          refine RX.done ?_
          simp (maxSteps := 1000000) only [ΦU,Φy,Φz,ΦI,ev,Φi,Φu,Φn,Φo,Φx,Φw,Φa,Φp,reduceIte,reduceCtorEq,if_true,if_false,Φq,Φk,Φb,Φc,true_and,and_true,false_and,and_false,true_implies,forall_const,false_implies,ne_eq,not_true_eq_false,not_false_eq_true,decide_true,decide_false,Φv,and_self,true_or,or_true,dite_true,dite_false,Φe,Φd,decide_eq_true_eq,decide_eq_false_iff_not,Φf,Φh,Φg,Φj,beq_self_eq_true,Φr,Φs,Φt,Φl,Φm,eq_self,Ψx,Ψl,Ψm,VCops,VQops,Ψv,putVC,VC,VQ,ΦV,ΦW,ΦN,ΦO,ΦE,ΦF,ΦJ,List.getElem?_cons_zero,List.getElem?_cons_succ,List.getElem?_nil,List.getElem?_toArray,Ψc,Ψi,ΦP,ΦA,ΦB,ΦT,ΦM,ΦX,ΦK,ΦQ,ΦR,ΦY,ΦG,ΦH,ΦZ,ΦC,ΦD,Ψa,ΦL,Ψj,ΦS,Ψb,Ψd,Ψe,Ψg,Ψh,Ψn,exists_eq_left,exists_eq_left',exists_const,Ψs,Ψo,Ψp,hP,h5_17,h5_2,h5_3,h5_4,h5_6]
          refine hK8 _ _ ?_
          try clear hK8 K8
          refine SX.cond_k fun X10 Y10 hX10 hY10 => ?_
          simp (maxSteps := 1000000) only [ΦU,Φy,Φz,ΦI,ev,Φi,Φu,Φn,Φo,Φx,Φw,Φa,Φp,reduceIte,reduceCtorEq,if_true,if_false,Φq,Φk,Φb,Φc,true_and,and_true,false_and,and_false,true_implies,forall_const,false_implies,ne_eq,not_true_eq_false,not_false_eq_true,decide_true,decide_false,Φv,and_self,true_or,or_true,dite_true,dite_false,Φe,Φd,decide_eq_true_eq,decide_eq_false_iff_not,Φf,Φh,Φg,Φj,beq_self_eq_true,Φr,Φs,Φt,Φl,Φm,eq_self,hP,h5_17,h5_2,h5_3,h5_4,h5_6,condVC]
          refine ⟨fun hc17 => hX10 ?_, fun hc17 => hY10 ?_⟩
          · clear hX10 hY10 X10 Y10
            refine SX.region ?_
            simp (maxSteps := 1000000) only [ΦU,Φy,Φz,ΦI,ev,Φi,Φu,Φn,Φo,Φx,Φw,Φa,Φp,reduceIte,reduceCtorEq,if_true,if_false,Φq,Φk,Φb,Φc,true_and,and_true,false_and,and_false,true_implies,forall_const,false_implies,ne_eq,not_true_eq_false,not_false_eq_true,decide_true,decide_false,Φv,and_self,true_or,or_true,dite_true,dite_false,Φe,Φd,decide_eq_true_eq,decide_eq_false_iff_not,Φf,Φh,Φg,Φj,beq_self_eq_true,Φr,Φs,Φt,Φl,Φm,eq_self,Ψx,Ψl,Ψm,VCops,VQops,Ψv,putVC,VC,VQ,ΦV,ΦW,ΦN,ΦO,ΦE,ΦF,ΦJ,List.getElem?_cons_zero,List.getElem?_cons_succ,List.getElem?_nil,List.getElem?_toArray,Ψc,Ψi,ΦP,ΦA,ΦB,ΦT,ΦM,ΦX,ΦK,ΦQ,ΦR,ΦY,ΦG,ΦH,ΦZ,ΦC,ΦD,Ψa,ΦL,Ψj,ΦS,Ψb,Ψd,Ψe,Ψg,Ψh,Ψn,exists_eq_left,exists_eq_left',exists_const,Ψs,Ψo,Ψp,fa_ptr,Ψu,Ψq,Ψw,Ψf,Ψr,Ψt,Ψk,T.elA_24,T.lay_24,T.szA_24,T.zr_24,Tryd.underlying24,ld_ptr,loadVC,loadN,T.szA_3,T.zr_3,Tryd.underlying3,bin_add,bin_adds,st_ptr,storeVC,setN,cells_int,cells_bool,ΨB,Ψz,ΨD,cells_agg,oneB_nil,oneB_cons,one_int,one_bool,one_string,ΨE,one_slice,one_map,one_func,ΨF,ΨC,one_iface,cells_map,cells_func,ΨA,Ψy,ΨG,hP,h5_17,h5_2,h5_3,h5_4,h5_6,w1]
            refine ⟨_, Cell.at 2 rfl rfl, ?_⟩
            try simp (maxSteps := 1000000) only [ΦU,Φy,Φz,ΦI,ev,Φi,Φu,Φn,Φo,Φx,Φw,Φa,Φp,reduceIte,reduceCtorEq,if_true,if_false,Φq,Φk,Φb,Φc,true_and,and_true,false_and,and_false,true_implies,forall_const,false_implies,ne_eq,not_true_eq_false,not_false_eq_true,decide_true,decide_false,Φv,and_self,true_or,or_true,dite_true,dite_false,Φe,Φd,decide_eq_true_eq,decide_eq_false_iff_not,Φf,Φh,Φg,Φj,beq_self_eq_true,Φr,Φs,Φt,Φl,Φm,eq_self,Ψx,Ψl,Ψm,VCops,VQops,Ψv,putVC,VC,VQ,ΦV,ΦW,ΦN,ΦO,ΦE,ΦF,ΦJ,List.getElem?_cons_zero,List.getElem?_cons_succ,List.getElem?_nil,List.getElem?_toArray,Ψc,Ψi,ΦP,ΦA,ΦB,ΦT,ΦM,ΦX,ΦK,ΦQ,ΦR,ΦY,ΦG,ΦH,ΦZ,ΦC,ΦD,Ψa,ΦL,Ψj,ΦS,Ψb,Ψd,Ψe,Ψg,Ψh,Ψn,exists_eq_left,exists_eq_left',exists_const,Ψs,Ψo,Ψp,fa_ptr,Ψu,Ψq,Ψw,Ψf,Ψr,Ψt,Ψk,T.elA_24,T.lay_24,T.szA_24,T.zr_24,Tryd.underlying24,ld_ptr,loadVC,loadN,T.szA_3,T.zr_3,Tryd.underlying3,bin_add,bin_adds,st_ptr,storeVC,setN,cells_int,cells_bool,ΨB,Ψz,ΨD,cells_agg,oneB_nil,oneB_cons,one_int,one_bool,one_string,ΨE,one_slice,one_map,one_func,ΨF,ΨC,one_iface,cells_map,cells_func,ΨA,Ψy,ΨG,hP,h5_17,h5_2,h5_3,h5_4,h5_6,w1]
            refine ⟨2, _, _, _, rfl, by first | decide | simp, .inr (by first | decide | simp), ?_⟩
            try simp (maxSteps := 1000000) only [ΦU,Φy,Φz,ΦI,ev,Φi,Φu,Φn,Φo,Φx,Φw,Φa,Φp,reduceIte,reduceCtorEq,if_true,if_false,Φq,Φk,Φb,Φc,true_and,and_true,false_and,and_false,true_implies,forall_const,false_implies,ne_eq,not_true_eq_false,not_false_eq_true,decide_true,decide_false,Φv,and_self,true_or,or_true,dite_true,dite_false,Φe,Φd,decide_eq_true_eq,decide_eq_false_iff_not,Φf,Φh,Φg,Φj,beq_self_eq_true,Φr,Φs,Φt,Φl,Φm,eq_self,Ψx,Ψl,Ψm,VCops,VQops,Ψv,putVC,VC,VQ,ΦV,ΦW,ΦN,ΦO,ΦE,ΦF,ΦJ,List.getElem?_cons_zero,List.getElem?_cons_succ,List.getElem?_nil,List.getElem?_toArray,Ψc,Ψi,ΦP,ΦA,ΦB,ΦT,ΦM,ΦX,ΦK,ΦQ,ΦR,ΦY,ΦG,ΦH,ΦZ,ΦC,ΦD,Ψa,ΦL,Ψj,ΦS,Ψb,Ψd,Ψe,Ψg,Ψh,Ψn,exists_eq_left,exists_eq_left',exists_const,Ψs,Ψo,Ψp,fa_ptr,Ψu,Ψq,Ψw,Ψf,Ψr,Ψt,Ψk,T.elA_24,T.lay_24,T.szA_24,T.zr_24,Tryd.underlying24,ld_ptr,loadVC,loadN,T.szA_3,T.zr_3,Tryd.underlying3,bin_add,bin_adds,st_ptr,storeVC,setN,cells_int,cells_bool,ΨB,Ψz,ΨD,cells_agg,oneB_nil,oneB_cons,one_int,one_bool,one_string,ΨE,one_slice,one_map,one_func,ΨF,ΨC,one_iface,cells_map,cells_func,ΨA,Ψy,ΨG,hP,h5_17,h5_2,h5_3,h5_4,h5_6,w1]
            refine hK7 (g + 1) _ (some (br, .cells #[.int .i64 0, .int .i64 0, .bool false, .int .i64 0] 24 (0, 0)) :: some (bd, .cells #[.int .u8 code, .int .u16 ad, .bool rd, .bool wr, .bool own, .int .u8 data, .int .u8 port, .bool pulse] 49 (0, 0)) :: some (bx, .cells #[.int .i64 l, .int .i64 c, .bool o, .int .i64 ((g + 1))] 24 (0, 0)) :: L) _ (by first | exact Less.refl _ | exact Less.drop _ _ | exact Less.drops (Less.drop _ _) | exact Less.drops (Less.drops (Less.drop _ _)) | exact Less.drops (Less.drops (Less.drops (Less.drop _ _))) | exact Less.drops (Less.drops (Less.drops (Less.drops (Less.drop _ _))))) ?_
            try dsimp only
            refine ⟨?_, ?_, ?_, ?_, ?_, ?_⟩
            · simp (maxSteps := 1000000) only [ΦU,Φy,Φz,ΦI,ev,Φi,Φu,Φn,Φo,Φx,Φw,Φa,Φp,reduceIte,reduceCtorEq,if_true,if_false,Φq,Φk,Φb,Φc,true_and,and_true,false_and,and_false,true_implies,forall_const,false_implies,ne_eq,not_true_eq_false,not_false_eq_true,decide_true,decide_false,Φv,and_self,true_or,or_true,dite_true,dite_false,Φe,Φd,decide_eq_true_eq,decide_eq_false_iff_not,Φf,Φh,Φg,Φj,beq_self_eq_true,Φr,Φs,Φt,Φl,Φm,eq_self,hP,h5_17,h5_2,h5_3,h5_4,h5_6]
            · simp (maxSteps := 1000000) only [ΦU,Φy,Φz,ΦI,ev,Φi,Φu,Φn,Φo,Φx,Φw,Φa,Φp,reduceIte,reduceCtorEq,if_true,if_false,Φq,Φk,Φb,Φc,true_and,and_true,false_and,and_false,true_implies,forall_const,false_implies,ne_eq,not_true_eq_false,not_false_eq_true,decide_true,decide_false,Φv,and_self,true_or,or_true,dite_true,dite_false,Φe,Φd,decide_eq_true_eq,decide_eq_false_iff_not,Φf,Φh,Φg,Φj,beq_self_eq_true,Φr,Φs,Φt,Φl,Φm,eq_self,hP,h5_17,h5_2,h5_3,h5_4,h5_6]
            · simp (maxSteps := 1000000) only [ΦU,Φy,Φz,ΦI,ev,Φi,Φu,Φn,Φo,Φx,Φw,Φa,Φp,reduceIte,reduceCtorEq,if_true,if_false,Φq,Φk,Φb,Φc,true_and,and_true,false_and,and_false,true_implies,forall_const,false_implies,ne_eq,not_true_eq_false,not_false_eq_true,decide_true,decide_false,Φv,and_self,true_or,or_true,dite_true,dite_false,Φe,Φd,decide_eq_true_eq,decide_eq_false_iff_not,Φf,Φh,Φg,Φj,beq_self_eq_true,Φr,Φs,Φt,Φl,Φm,eq_self,hP,h5_17,h5_2,h5_3,h5_4,h5_6]
            · simp (maxSteps := 1000000) only [ΦU,Φy,Φz,ΦI,ev,Φi,Φu,Φn,Φo,Φx,Φw,Φa,Φp,reduceIte,reduceCtorEq,if_true,if_false,Φq,Φk,Φb,Φc,true_and,and_true,false_and,and_false,true_implies,forall_const,false_implies,ne_eq,not_true_eq_false,not_false_eq_true,decide_true,decide_false,Φv,and_self,true_or,or_true,dite_true,dite_false,Φe,Φd,decide_eq_true_eq,decide_eq_false_iff_not,Φf,Φh,Φg,Φj,beq_self_eq_true,Φr,Φs,Φt,Φl,Φm,eq_self,hP,h5_17,h5_2,h5_3,h5_4,h5_6]
            · rfl
            · rw [hc17]; rfl
          · clear hX10 hY10 X10 Y10
            refine SX.skip ?_
            simp only [Φi, Φu, Φn, Φo, Φx, Φw, Φa, if_true, if_false, reduceIte]
            refine hK7 g _ (some (br, .cells #[.int .i64 0, .int .i64 0, .bool false, .int .i64 0] 24 (0, 0)) :: some (bd, .cells #[.int .u8 code, .int .u16 ad, .bool rd, .bool wr, .bool own, .int .u8 data, .int .u8 port, .bool pulse] 49 (0, 0)) :: some (bx, .cells #[.int .i64 l, .int .i64 c, .bool o, .int .i64 g] 24 (0, 0)) :: L) _ (by first | exact Less.refl _ | exact Less.drop _ _ | exact Less.drops (Less.drop _ _) | exact Less.drops (Less.drops (Less.drop _ _)) | exact Less.drops (Less.drops (Less.drops (Less.drop _ _))) | exact Less.drops (Less.drops (Less.drops (Less.drops (Less.drop _ _))))) ?_
            try dsimp only
            refine ⟨?_, ?_, ?_, ?_, ?_, ?_⟩
            · simp (maxSteps := 1000000) only [ΦU,Φy,Φz,ΦI,ev,Φi,Φu,Φn,Φo,Φx,Φw,Φa,Φp,reduceIte,reduceCtorEq,if_true,if_false,Φq,Φk,Φb,Φc,true_and,and_true,false_and,and_false,true_implies,forall_const,false_implies,ne_eq,not_true_eq_false,not_false_eq_true,decide_true,decide_false,Φv,and_self,true_or,or_true,dite_true,dite_false,Φe,Φd,decide_eq_true_eq,decide_eq_false_iff_not,Φf,Φh,Φg,Φj,beq_self_eq_true,Φr,Φs,Φt,Φl,Φm,eq_self,hP,h5_17,h5_2,h5_3,h5_4,h5_6]
            · simp (maxSteps := 1000000) only [ΦU,Φy,Φz,ΦI,ev,Φi,Φu,Φn,Φo,Φx,Φw,Φa,Φp,reduceIte,reduceCtorEq,if_true,if_false,Φq,Φk,Φb,Φc,true_and,and_true,false_and,and_false,true_implies,forall_const,false_implies,ne_eq,not_true_eq_false,not_false_eq_true,decide_true,decide_false,Φv,and_self,true_or,or_true,dite_true,dite_false,Φe,Φd,decide_eq_true_eq,decide_eq_false_iff_not,Φf,Φh,Φg,Φj,beq_self_eq_true,Φr,Φs,Φt,Φl,Φm,eq_self,hP,h5_17,h5_2,h5_3,h5_4,h5_6]
            · simp (maxSteps := 1000000) only [ΦU,Φy,Φz,ΦI,ev,Φi,Φu,Φn,Φo,Φx,Φw,Φa,Φp,reduceIte,reduceCtorEq,if_true,if_false,Φq,Φk,Φb,Φc,true_and,and_true,false_and,and_false,true_implies,forall_const,false_implies,ne_eq,not_true_eq_false,not_false_eq_true,decide_true,decide_false,Φv,and_self,true_or,or_true,dite_true,dite_false,Φe,Φd,decide_eq_true_eq,decide_eq_false_iff_not,Φf,Φh,Φg,Φj,beq_self_eq_true,Φr,Φs,Φt,Φl,Φm,eq_self,hP,h5_17,h5_2,h5_3,h5_4,h5_6]
            · simp (maxSteps := 1000000) only [ΦU,Φy,Φz,ΦI,ev,Φi,Φu,Φn,Φo,Φx,Φw,Φa,Φp,reduceIte,reduceCtorEq,if_true,if_false,Φq,Φk,Φb,Φc,true_and,and_true,false_and,and_false,true_implies,forall_const,false_implies,ne_eq,not_true_eq_false,not_false_eq_true,decide_true,decide_false,Φv,and_self,true_or,or_true,dite_true,dite_false,Φe,Φd,decide_eq_true_eq,decide_eq_false_iff_not,Φf,Φh,Φg,Φj,beq_self_eq_true,Φr,Φs,Φt,Φl,Φm,eq_self,hP,h5_17,h5_2,h5_3,h5_4,h5_6]
            · rfl
            · rw [hc17]; rfl
      · intro g1 T6 L6 hI
        try dsimp only at hI 
        simp only [h3_2, h3_3, h3_4, h3_6] at hI 
        obtain ⟨h6_2, h6_3, h6_4, h6_6, hL6, hg1⟩ := hI
        replace hL6 := hL6.symm
        subst hL6
        clear h3_2 h3_3 h3_4 h3_6 T3
        refine SX.live [2, 3, 4, 6] (fun T7 hT7 => ?_)
        simp only [ΨH,forall_mem_nil',ΦU,Φy,Φz,ΦI,ev,Φi,Φu,Φn,Φo,Φx,Φw,Φa,Φp,reduceIte,reduceCtorEq,if_true,if_false,Φq,Φk,Φb,Φc,true_and,and_true,false_and,and_false,true_implies,forall_const,false_implies,ne_eq,not_true_eq_false,not_false_eq_true,decide_true,decide_false,Φv,and_self,true_or,or_true,dite_true,dite_false,Φe,Φd,decide_eq_true_eq,decide_eq_false_iff_not,Φf,Φh,Φg,Φj,beq_self_eq_true,Φr,Φs,Φt,Φl,Φm,eq_self,hP,h6_2,h6_3,h6_4,h6_6] at hT7
        obtain ⟨h7_2, h7_3, h7_4, h7_6⟩ := hT7
        clear h6_2 h6_3 h6_4 h6_6 T6
        refine SX.join (fun (ss : (Bool)) T L' => (fun (o1 : Bool) => T 3 = T7 3 ∧ T 6 = T7 6 ∧ L' = some (br, .cells #[.int .i64 0, .int .i64 0, .bool false, .int .i64 0] 24 (0, 0)) :: some (bd, .cells #[.int .u8 code, .int .u16 ad, .bool rd, .bool wr, .bool own, .int .u8 data, .int .u8 port, .bool pulse] 49 (0, 0)) :: some (bx, .cells #[.int .i64 l, .int .i64 c, .bool o1, .int .i64 g1] 24 (0, 0)) :: L ∧ (o1 = onB o port rd wr m)) (ss)) (fun K11 hK11 => ?_) ?_
        · simp only [h7_3, h7_6] at hK11
          refine SX.seq_k fun K12 hK12 => ?_
          refine SX.region ?_
          simp (maxSteps := 1000000) only [ΦU,Φy,Φz,ΦI,ev,Φi,Φu,Φn,Φo,Φx,Φw,Φa,Φp,reduceIte,reduceCtorEq,if_true,if_false,Φq,Φk,Φb,Φc,true_and,and_true,false_and,and_false,true_implies,forall_const,false_implies,ne_eq,not_true_eq_false,not_false_eq_true,decide_true,decide_false,Φv,and_self,true_or,or_true,dite_true,dite_false,Φe,Φd,decide_eq_true_eq,decide_eq_false_iff_not,Φf,Φh,Φg,Φj,beq_self_eq_true,Φr,Φs,Φt,Φl,Φm,eq_self,Ψx,Ψl,Ψm,VCops,VQops,Ψv,putVC,VC,VQ,ΦV,ΦW,ΦN,ΦO,ΦE,ΦF,ΦJ,List.getElem?_cons_zero,List.getElem?_cons_succ,List.getElem?_nil,List.getElem?_toArray,Ψc,Ψi,ΦP,ΦA,ΦB,ΦT,ΦM,ΦX,ΦK,ΦQ,ΦR,ΦY,ΦG,ΦH,ΦZ,ΦC,ΦD,Ψa,ΦL,Ψj,ΦS,Ψb,Ψd,Ψe,Ψg,Ψh,Ψn,exists_eq_left,exists_eq_left',exists_const,Ψs,Ψo,Ψp,hP,h7_2,h7_3,h7_4,h7_6]
          refine hK12 _ _ ?_
          try clear hK12 K12
          refine SX.block ?_
          refine SX.seq_k fun K13 hK13 => ?_
          refine SX.block ?_
          refine SX.seq_k fun K14 hK14 => ?_
          refine SX.block ?_
          refine SX.block ?_
          refine SX.seq_k fun K15 hK15 => ?_
          refine SX.seq_k fun K16 hK16 => ?_
          refine SX.seq_k fun K17 hK17 => ?_
          refine SX.region ?_
          simp (maxSteps := 1000000) only [ΦU,Φy,Φz,ΦI,ev,Φi,Φu,Φn,Φo,Φx,Φw,Φa,Φp,reduceIte,reduceCtorEq,if_true,if_false,Φq,Φk,Φb,Φc,true_and,and_true,false_and,and_false,true_implies,forall_const,false_implies,ne_eq,not_true_eq_false,not_false_eq_true,decide_true,decide_false,Φv,and_self,true_or,or_true,dite_true,dite_false,Φe,Φd,decide_eq_true_eq,decide_eq_false_iff_not,Φf,Φh,Φg,Φj,beq_self_eq_true,Φr,Φs,Φt,Φl,Φm,eq_self,Ψx,Ψl,Ψm,VCops,VQops,Ψv,putVC,VC,VQ,ΦV,ΦW,ΦN,ΦO,ΦE,ΦF,ΦJ,List.getElem?_cons_zero,List.getElem?_cons_succ,List.getElem?_nil,List.getElem?_toArray,Ψc,Ψi,ΦP,ΦA,ΦB,ΦT,ΦM,ΦX,ΦK,ΦQ,ΦR,ΦY,ΦG,ΦH,ΦZ,ΦC,ΦD,Ψa,ΦL,Ψj,ΦS,Ψb,Ψd,Ψe,Ψg,Ψh,Ψn,exists_eq_left,exists_eq_left',exists_const,Ψs,Ψo,Ψp,bin_eql,bin_eqlb,bin_eqls,bin_eqla,T.szA_27,T.zr_27,Tryd.underlying27,hP,h7_2,h7_3,h7_4,h7_6]
          refine hK17 _ _ ?_
          try clear hK17 K17
          refine SX.cond_k fun X18 Y18 hX18 hY18 => ?_
          simp (maxSteps := 1000000) only [ΦU,Φy,Φz,ΦI,ev,Φi,Φu,Φn,Φo,Φx,Φw,Φa,Φp,reduceIte,reduceCtorEq,if_true,if_false,Φq,Φk,Φb,Φc,true_and,and_true,false_and,and_false,true_implies,forall_const,false_implies,ne_eq,not_true_eq_false,not_false_eq_true,decide_true,decide_false,Φv,and_self,true_or,or_true,dite_true,dite_false,Φe,Φd,decide_eq_true_eq,decide_eq_false_iff_not,Φf,Φh,Φg,Φj,beq_self_eq_true,Φr,Φs,Φt,Φl,Φm,eq_self,hP,h7_2,h7_3,h7_4,h7_6,condVC]
          refine ⟨fun hc23 => hX18 ?_, fun hc23 => hY18 ?_⟩
          · clear hX18 hY18 X18 Y18
            refine SX.exit ?_
            simp only [Φi, Φu, Φn, Φo, Φx, Φw, Φa, if_true, if_false, reduceIte]
            refine hK14 _ _ ?_
            try clear hK14 K14
            refine SX.seq_k fun K19 hK19 => ?_
            refine SX.region ?_
            simp (maxSteps := 1000000) only [ΦU,Φy,Φz,ΦI,ev,Φi,Φu,Φn,Φo,Φx,Φw,Φa,Φp,reduceIte,reduceCtorEq,if_true,if_false,Φq,Φk,Φb,Φc,true_and,and_true,false_and,and_false,true_implies,forall_const,false_implies,ne_eq,not_true_eq_false,not_false_eq_true,decide_true,decide_false,Φv,and_self,true_or,or_true,dite_true,dite_false,Φe,Φd,decide_eq_true_eq,decide_eq_false_iff_not,Φf,Φh,Φg,Φj,beq_self_eq_true,Φr,Φs,Φt,Φl,Φm,eq_self,Ψx,Ψl,Ψm,VCops,VQops,Ψv,putVC,VC,VQ,ΦV,ΦW,ΦN,ΦO,ΦE,ΦF,ΦJ,List.getElem?_cons_zero,List.getElem?_cons_succ,List.getElem?_nil,List.getElem?_toArray,Ψc,Ψi,ΦP,ΦA,ΦB,ΦT,ΦM,ΦX,ΦK,ΦQ,ΦR,ΦY,ΦG,ΦH,ΦZ,ΦC,ΦD,Ψa,ΦL,Ψj,ΦS,Ψb,Ψd,Ψe,Ψg,Ψh,Ψn,exists_eq_left,exists_eq_left',exists_const,Ψs,Ψo,Ψp,fa_ptr,Ψu,Ψq,Ψw,Ψf,Ψr,Ψt,Ψk,T.elA_24,T.lay_24,T.szA_24,T.zr_24,Tryd.underlying24,st_ptr,storeVC,setN,cells_int,cells_bool,ΨB,Ψz,ΨD,cells_agg,oneB_nil,oneB_cons,one_int,one_bool,one_string,ΨE,one_slice,one_map,one_func,ΨF,ΨC,one_iface,cells_map,cells_func,ΨA,Ψy,ΨG,T.szA_4,T.zr_4,Tryd.underlying4,hP,h7_2,h7_3,h7_4,h7_6]
            refine ⟨2, _, _, _, rfl, by first | decide | simp, .inr (by first | decide | simp), ?_⟩
            try simp (maxSteps := 1000000) only [ΦU,Φy,Φz,ΦI,ev,Φi,Φu,Φn,Φo,Φx,Φw,Φa,Φp,reduceIte,reduceCtorEq,if_true,if_false,Φq,Φk,Φb,Φc,true_and,and_true,false_and,and_false,true_implies,forall_const,false_implies,ne_eq,not_true_eq_false,not_false_eq_true,decide_true,decide_false,Φv,and_self,true_or,or_true,dite_true,dite_false,Φe,Φd,decide_eq_true_eq,decide_eq_false_iff_not,Φf,Φh,Φg,Φj,beq_self_eq_true,Φr,Φs,Φt,Φl,Φm,eq_self,Ψx,Ψl,Ψm,VCops,VQops,Ψv,putVC,VC,VQ,ΦV,ΦW,ΦN,ΦO,ΦE,ΦF,ΦJ,List.getElem?_cons_zero,List.getElem?_cons_succ,List.getElem?_nil,List.getElem?_toArray,Ψc,Ψi,ΦP,ΦA,ΦB,ΦT,ΦM,ΦX,ΦK,ΦQ,ΦR,ΦY,ΦG,ΦH,ΦZ,ΦC,ΦD,Ψa,ΦL,Ψj,ΦS,Ψb,Ψd,Ψe,Ψg,Ψh,Ψn,exists_eq_left,exists_eq_left',exists_const,Ψs,Ψo,Ψp,fa_ptr,Ψu,Ψq,Ψw,Ψf,Ψr,Ψt,Ψk,T.elA_24,T.lay_24,T.szA_24,T.zr_24,Tryd.underlying24,st_ptr,storeVC,setN,cells_int,cells_bool,ΨB,Ψz,ΨD,cells_agg,oneB_nil,oneB_cons,one_int,one_bool,one_string,ΨE,one_slice,one_map,one_func,ΨF,ΨC,one_iface,cells_map,cells_func,ΨA,Ψy,ΨG,T.szA_4,T.zr_4,Tryd.underlying4,hP,h7_2,h7_3,h7_4,h7_6]
            refine hK19 _ _ ?_
            try clear hK19 K19
            refine SX.exit ?_
            simp only [Φi, Φu, Φn, Φo, Φx, Φw, Φa, if_true, if_false, reduceIte]
            refine hK11 false _ (some (br, .cells #[.int .i64 0, .int .i64 0, .bool false, .int .i64 0] 24 (0, 0)) :: some (bd, .cells #[.int .u8 code, .int .u16 ad, .bool rd, .bool wr, .bool own, .int .u8 data, .int .u8 port, .bool pulse] 49 (0, 0)) :: some (bx, .cells #[.int .i64 l, .int .i64 c, .bool false, .int .i64 g1] 24 (0, 0)) :: L) _ (by first | exact Less.refl _ | exact Less.drop _ _ | exact Less.drops (Less.drop _ _) | exact Less.drops (Less.drops (Less.drop _ _)) | exact Less.drops (Less.drops (Less.drops (Less.drop _ _))) | exact Less.drops (Less.drops (Less.drops (Less.drops (Less.drop _ _))))) ?_
            try dsimp only
            refine ⟨?_, ?_, ?_, ?_⟩
            · simp (maxSteps := 1000000) only [ΦU,Φy,Φz,ΦI,ev,Φi,Φu,Φn,Φo,Φx,Φw,Φa,Φp,reduceIte,reduceCtorEq,if_true,if_false,Φq,Φk,Φb,Φc,true_and,and_true,false_and,and_false,true_implies,forall_const,false_implies,ne_eq,not_true_eq_false,not_false_eq_true,decide_true,decide_false,Φv,and_self,true_or,or_true,dite_true,dite_false,Φe,Φd,decide_eq_true_eq,decide_eq_false_iff_not,Φf,Φh,Φg,Φj,beq_self_eq_true,Φr,Φs,Φt,Φl,Φm,eq_self,hP,h7_2,h7_3,h7_4,h7_6]
            · simp (maxSteps := 1000000) only [ΦU,Φy,Φz,ΦI,ev,Φi,Φu,Φn,Φo,Φx,Φw,Φa,Φp,reduceIte,reduceCtorEq,if_true,if_false,Φq,Φk,Φb,Φc,true_and,and_true,false_and,and_false,true_implies,forall_const,false_implies,ne_eq,not_true_eq_false,not_false_eq_true,decide_true,decide_false,Φv,and_self,true_or,or_true,dite_true,dite_false,Φe,Φd,decide_eq_true_eq,decide_eq_false_iff_not,Φf,Φh,Φg,Φj,beq_self_eq_true,Φr,Φs,Φt,Φl,Φm,eq_self,hP,h7_2,h7_3,h7_4,h7_6]
            · rfl
            · rw [onB, if_pos (Or.inl hc23)]
          · clear hX18 hY18 X18 Y18
            refine SX.skip ?_
            simp only [Φi, Φu, Φn, Φo, Φx, Φw, Φa, if_true, if_false, reduceIte]
            refine hK16 _ _ ?_
            try clear hK16 K16
            refine SX.seq_k fun K20 hK20 => ?_
            refine SX.region ?_
            simp (maxSteps := 1000000) only [ΦU,Φy,Φz,ΦI,ev,Φi,Φu,Φn,Φo,Φx,Φw,Φa,Φp,reduceIte,reduceCtorEq,if_true,if_false,Φq,Φk,Φb,Φc,true_and,and_true,false_and,and_false,true_implies,forall_const,false_implies,ne_eq,not_true_eq_false,not_false_eq_true,decide_true,decide_false,Φv,and_self,true_or,or_true,dite_true,dite_false,Φe,Φd,decide_eq_true_eq,decide_eq_false_iff_not,Φf,Φh,Φg,Φj,beq_self_eq_true,Φr,Φs,Φt,Φl,Φm,eq_self,Ψx,Ψl,Ψm,VCops,VQops,Ψv,putVC,VC,VQ,ΦV,ΦW,ΦN,ΦO,ΦE,ΦF,ΦJ,List.getElem?_cons_zero,List.getElem?_cons_succ,List.getElem?_nil,List.getElem?_toArray,Ψc,Ψi,ΦP,ΦA,ΦB,ΦT,ΦM,ΦX,ΦK,ΦQ,ΦR,ΦY,ΦG,ΦH,ΦZ,ΦC,ΦD,Ψa,ΦL,Ψj,ΦS,Ψb,Ψd,Ψe,Ψg,Ψh,Ψn,exists_eq_left,exists_eq_left',exists_const,Ψs,Ψo,Ψp,bin_eql,bin_eqlb,bin_eqls,bin_eqla,T.szA_27,T.zr_27,Tryd.underlying27,hP,h7_2,h7_3,h7_4,h7_6]
            refine hK20 _ _ ?_
            try clear hK20 K20
            refine SX.cond_k fun X21 Y21 hX21 hY21 => ?_
            simp (maxSteps := 1000000) only [ΦU,Φy,Φz,ΦI,ev,Φi,Φu,Φn,Φo,Φx,Φw,Φa,Φp,reduceIte,reduceCtorEq,if_true,if_false,Φq,Φk,Φb,Φc,true_and,and_true,false_and,and_false,true_implies,forall_const,false_implies,ne_eq,not_true_eq_false,not_false_eq_true,decide_true,decide_false,Φv,and_self,true_or,or_true,dite_true,dite_false,Φe,Φd,decide_eq_true_eq,decide_eq_false_iff_not,Φf,Φh,Φg,Φj,beq_self_eq_true,Φr,Φs,Φt,Φl,Φm,eq_self,hP,h7_2,h7_3,h7_4,h7_6,condVC]
            refine ⟨fun hc25 => hX21 ?_, fun hc25 => hY21 ?_⟩
            · clear hX21 hY21 X21 Y21
              refine SX.exit ?_
              simp only [Φi, Φu, Φn, Φo, Φx, Φw, Φa, if_true, if_false, reduceIte]
              refine hK14 _ _ ?_
              try clear hK14 K14
              refine SX.seq_k fun K22 hK22 => ?_
              refine SX.region ?_
              simp (maxSteps := 1000000) only [ΦU,Φy,Φz,ΦI,ev,Φi,Φu,Φn,Φo,Φx,Φw,Φa,Φp,reduceIte,reduceCtorEq,if_true,if_false,Φq,Φk,Φb,Φc,true_and,and_true,false_and,and_false,true_implies,forall_const,false_implies,ne_eq,not_true_eq_false,not_false_eq_true,decide_true,decide_false,Φv,and_self,true_or,or_true,dite_true,dite_false,Φe,Φd,decide_eq_true_eq,decide_eq_false_iff_not,Φf,Φh,Φg,Φj,beq_self_eq_true,Φr,Φs,Φt,Φl,Φm,eq_self,Ψx,Ψl,Ψm,VCops,VQops,Ψv,putVC,VC,VQ,ΦV,ΦW,ΦN,ΦO,ΦE,ΦF,ΦJ,List.getElem?_cons_zero,List.getElem?_cons_succ,List.getElem?_nil,List.getElem?_toArray,Ψc,Ψi,ΦP,ΦA,ΦB,ΦT,ΦM,ΦX,ΦK,ΦQ,ΦR,ΦY,ΦG,ΦH,ΦZ,ΦC,ΦD,Ψa,ΦL,Ψj,ΦS,Ψb,Ψd,Ψe,Ψg,Ψh,Ψn,exists_eq_left,exists_eq_left',exists_const,Ψs,Ψo,Ψp,fa_ptr,Ψu,Ψq,Ψw,Ψf,Ψr,Ψt,Ψk,T.elA_24,T.lay_24,T.szA_24,T.zr_24,Tryd.underlying24,st_ptr,storeVC,setN,cells_int,cells_bool,ΨB,Ψz,ΨD,cells_agg,oneB_nil,oneB_cons,one_int,one_bool,one_string,ΨE,one_slice,one_map,one_func,ΨF,ΨC,one_iface,cells_map,cells_func,ΨA,Ψy,ΨG,T.szA_4,T.zr_4,Tryd.underlying4,hP,h7_2,h7_3,h7_4,h7_6]
              refine ⟨2, _, _, _, rfl, by first | decide | simp, .inr (by first | decide | simp), ?_⟩
              try simp (maxSteps := 1000000) only [ΦU,Φy,Φz,ΦI,ev,Φi,Φu,Φn,Φo,Φx,Φw,Φa,Φp,reduceIte,reduceCtorEq,if_true,if_false,Φq,Φk,Φb,Φc,true_and,and_true,false_and,and_false,true_implies,forall_const,false_implies,ne_eq,not_true_eq_false,not_false_eq_true,decide_true,decide_false,Φv,and_self,true_or,or_true,dite_true,dite_false,Φe,Φd,decide_eq_true_eq,decide_eq_false_iff_not,Φf,Φh,Φg,Φj,beq_self_eq_true,Φr,Φs,Φt,Φl,Φm,eq_self,Ψx,Ψl,Ψm,VCops,VQops,Ψv,putVC,VC,VQ,ΦV,ΦW,ΦN,ΦO,ΦE,ΦF,ΦJ,List.getElem?_cons_zero,List.getElem?_cons_succ,List.getElem?_nil,List.getElem?_toArray,Ψc,Ψi,ΦP,ΦA,ΦB,ΦT,ΦM,ΦX,ΦK,ΦQ,ΦR,ΦY,ΦG,ΦH,ΦZ,ΦC,ΦD,Ψa,ΦL,Ψj,ΦS,Ψb,Ψd,Ψe,Ψg,Ψh,Ψn,exists_eq_left,exists_eq_left',exists_const,Ψs,Ψo,Ψp,fa_ptr,Ψu,Ψq,Ψw,Ψf,Ψr,Ψt,Ψk,T.elA_24,T.lay_24,T.szA_24,T.zr_24,Tryd.underlying24,st_ptr,storeVC,setN,cells_int,cells_bool,ΨB,Ψz,ΨD,cells_agg,oneB_nil,oneB_cons,one_int,one_bool,one_string,ΨE,one_slice,one_map,one_func,ΨF,ΨC,one_iface,cells_map,cells_func,ΨA,Ψy,ΨG,T.szA_4,T.zr_4,Tryd.underlying4,hP,h7_2,h7_3,h7_4,h7_6]
              refine hK22 _ _ ?_
              try clear hK22 K22
              refine SX.exit ?_
              simp only [Φi, Φu, Φn, Φo, Φx, Φw, Φa, if_true, if_false, reduceIte]
              refine hK11 false _ (some (br, .cells #[.int .i64 0, .int .i64 0, .bool false, .int .i64 0] 24 (0, 0)) :: some (bd, .cells #[.int .u8 code, .int .u16 ad, .bool rd, .bool wr, .bool own, .int .u8 data, .int .u8 port, .bool pulse] 49 (0, 0)) :: some (bx, .cells #[.int .i64 l, .int .i64 c, .bool false, .int .i64 g1] 24 (0, 0)) :: L) _ (by first | exact Less.refl _ | exact Less.drop _ _ | exact Less.drops (Less.drop _ _) | exact Less.drops (Less.drops (Less.drop _ _)) | exact Less.drops (Less.drops (Less.drops (Less.drop _ _))) | exact Less.drops (Less.drops (Less.drops (Less.drops (Less.drop _ _))))) ?_
              try dsimp only
              refine ⟨?_, ?_, ?_, ?_⟩
              · simp (maxSteps := 1000000) only [ΦU,Φy,Φz,ΦI,ev,Φi,Φu,Φn,Φo,Φx,Φw,Φa,Φp,reduceIte,reduceCtorEq,if_true,if_false,Φq,Φk,Φb,Φc,true_and,and_true,false_and,and_false,true_implies,forall_const,false_implies,ne_eq,not_true_eq_false,not_false_eq_true,decide_true,decide_false,Φv,and_self,true_or,or_true,dite_true,dite_false,Φe,Φd,decide_eq_true_eq,decide_eq_false_iff_not,Φf,Φh,Φg,Φj,beq_self_eq_true,Φr,Φs,Φt,Φl,Φm,eq_self,hP,h7_2,h7_3,h7_4,h7_6]
              · simp (maxSteps := 1000000) only [ΦU,Φy,Φz,ΦI,ev,Φi,Φu,Φn,Φo,Φx,Φw,Φa,Φp,reduceIte,reduceCtorEq,if_true,if_false,Φq,Φk,Φb,Φc,true_and,and_true,false_and,and_false,true_implies,forall_const,false_implies,ne_eq,not_true_eq_false,not_false_eq_true,decide_true,decide_false,Φv,and_self,true_or,or_true,dite_true,dite_false,Φe,Φd,decide_eq_true_eq,decide_eq_false_iff_not,Φf,Φh,Φg,Φj,beq_self_eq_true,Φr,Φs,Φt,Φl,Φm,eq_self,hP,h7_2,h7_3,h7_4,h7_6]
              · rfl
              · rw [onB, if_pos (Or.inr hc25)]
            · clear hX21 hY21 X21 Y21
              refine SX.skip ?_
              simp only [Φi, Φu, Φn, Φo, Φx, Φw, Φa, if_true, if_false, reduceIte]
              refine hK15 _ _ ?_
              try clear hK15 K15
              refine SX.exit ?_
              simp only [Φi, Φu, Φn, Φo, Φx, Φw, Φa, if_true, if_false, reduceIte]
              refine hK13 _ _ ?_
              try clear hK13 K13
              refine SX.seq_k fun K23 hK23 => ?_
              refine SX.seq_k fun K24 hK24 => ?_
              refine SX.region_x ?_
              refine RX.live [3, 4, 6] (fun T8 hT8 => ?_)
              simp only [ΨH,forall_mem_nil',ΦU,Φy,Φz,ΦI,ev,Φi,Φu,Φn,Φo,Φx,Φw,Φa,Φp,reduceIte,reduceCtorEq,if_true,if_false,Φq,Φk,Φb,Φc,true_and,and_true,false_and,and_false,true_implies,forall_const,false_implies,ne_eq,not_true_eq_false,not_false_eq_true,decide_true,decide_false,Φv,and_self,true_or,or_true,dite_true,dite_false,Φe,Φd,decide_eq_true_eq,decide_eq_false_iff_not,Φf,Φh,Φg,Φj,beq_self_eq_true,Φr,Φs,Φt,Φl,Φm,eq_self,hP,h7_2,h7_3,h7_4,h7_6] at hT8
              obtain ⟨h8_3, h8_4, h8_6⟩ := hT8
              clear h7_2 h7_3 h7_4 h7_6 T7
              refine RX.join 11 (fun (ss : Unit) T L' => T 38 = .bool (decide (port = 1) && (rd || wr)) ∧ T 3 = T8 3 ∧ T 4 = T8 4 ∧ T 6 = T8 6 ∧ L' = some (br, .cells #[.int .i64 0, .int .i64 0, .bool false, .int .i64 0] 24 (0, 0)) :: some (bd, .cells #[.int .u8 code, .int .u16 ad, .bool rd, .bool wr, .bool own, .int .u8 data, .int .u8 port, .bool pulse] 49 (0, 0)) :: some (bx, .cells #[.int .i64 l, .int .i64 c, .bool o, .int .i64 g1] 24 (0, 0)) :: L ∧ (True)) (fun K25 hK25 => ?_) ?_
              · simp only [h8_3, h8_4, h8_6] at hK25
                refine VCops_cut 4 fun K26 hK26 => ?_
                simp (maxSteps := 1000000) only [ΦU,Φy,Φz,ΦI,ev,Φi,Φu,Φn,Φo,Φx,Φw,Φa,Φp,reduceIte,reduceCtorEq,if_true,if_false,Φq,Φk,Φb,Φc,true_and,and_true,false_and,and_false,true_implies,forall_const,false_implies,ne_eq,not_true_eq_false,not_false_eq_true,decide_true,decide_false,Φv,and_self,true_or,or_true,dite_true,dite_false,Φe,Φd,decide_eq_true_eq,decide_eq_false_iff_not,Φf,Φh,Φg,Φj,beq_self_eq_true,Φr,Φs,Φt,Φl,Φm,eq_self,Ψx,Ψl,Ψm,VCops,VQops,Ψv,putVC,VC,VQ,ΦV,ΦW,ΦN,ΦO,ΦE,ΦF,ΦJ,List.getElem?_cons_zero,List.getElem?_cons_succ,List.getElem?_nil,List.getElem?_toArray,Ψc,Ψi,ΦP,ΦA,ΦB,ΦT,ΦM,ΦX,ΦK,ΦQ,ΦR,ΦY,ΦG,ΦH,ΦZ,ΦC,ΦD,Ψa,ΦL,Ψj,ΦS,Ψb,Ψd,Ψe,Ψg,Ψh,Ψn,exists_eq_left,exists_eq_left',exists_const,Ψs,Ψo,Ψp,fa_ptr,Ψu,Ψq,Ψw,Ψf,Ψr,Ψt,Ψk,T.elA_49,T.lay_49,T.szA_49,T.zr_49,Tryd.underlying49,ld_ptr,loadVC,loadN,T.szA_5,T.zr_5,Tryd.underlying5,bin_eql,bin_eqlb,bin_eqls,bin_eqla,hP,h8_3,h8_4,h8_6]
                repeat' (first | refine iteB (fun hg => ?_) (fun hg => ?_) | refine iteI (fun hg => ?_) (fun hg => ?_) | ((first | refine ⟨by omega, ?_⟩ | refine ⟨_, Cell.at 0 rfl rfl, ?_⟩ | refine ⟨_, Cell.at 1 rfl rfl, ?_⟩ | refine ⟨_, Cell.at 2 rfl rfl, ?_⟩ | fail); try simp (maxSteps := 1000000) only [ΦU,Φy,Φz,ΦI,ev,Φi,Φu,Φn,Φo,Φx,Φw,Φa,Φp,reduceIte,reduceCtorEq,if_true,if_false,Φq,Φk,Φb,Φc,true_and,and_true,false_and,and_false,true_implies,forall_const,false_implies,ne_eq,not_true_eq_false,not_false_eq_true,decide_true,decide_false,Φv,and_self,true_or,or_true,dite_true,dite_false,Φe,Φd,decide_eq_true_eq,decide_eq_false_iff_not,Φf,Φh,Φg,Φj,beq_self_eq_true,Φr,Φs,Φt,Φl,Φm,eq_self,Ψx,Ψl,Ψm,VCops,VQops,Ψv,putVC,VC,VQ,ΦV,ΦW,ΦN,ΦO,ΦE,ΦF,ΦJ,List.getElem?_cons_zero,List.getElem?_cons_succ,List.getElem?_nil,List.getElem?_toArray,Ψc,Ψi,ΦP,ΦA,ΦB,ΦT,ΦM,ΦX,ΦK,ΦQ,ΦR,ΦY,ΦG,ΦH,ΦZ,ΦC,ΦD,Ψa,ΦL,Ψj,ΦS,Ψb,Ψd,Ψe,Ψg,Ψh,Ψn,exists_eq_left,exists_eq_left',exists_const,Ψs,Ψo,Ψp,fa_ptr,Ψu,Ψq,Ψw,Ψf,Ψr,Ψt,Ψk,T.elA_49,T.lay_49,T.szA_49,T.zr_49,Tryd.underlying49,ld_ptr,loadVC,loadN,T.szA_5,T.zr_5,Tryd.underlying5,bin_eql,bin_eqlb,bin_eqls,bin_eqla,hP,h8_3,h8_4,h8_6]) | fail)
                all_goals (refine hK26 _ _ ?_; clear hK26 K26)
                all_goals
                  refine VCops_cut 3 fun K27 hK27 => ?_
                  try simp (maxSteps := 1000000) only [ΦU,Φy,Φz,ΦI,ev,Φi,Φu,Φn,Φo,Φx,Φw,Φa,Φp,reduceIte,reduceCtorEq,if_true,if_false,Φq,Φk,Φb,Φc,true_and,and_true,false_and,and_false,true_implies,forall_const,false_implies,ne_eq,not_true_eq_false,not_false_eq_true,decide_true,decide_false,Φv,and_self,true_or,or_true,dite_true,dite_false,Φe,Φd,decide_eq_true_eq,decide_eq_false_iff_not,Φf,Φh,Φg,Φj,beq_self_eq_true,Φr,Φs,Φt,Φl,Φm,eq_self,Ψx,Ψl,Ψm,VCops,VQops,Ψv,putVC,VC,VQ,ΦV,ΦW,ΦN,ΦO,ΦE,ΦF,ΦJ,List.getElem?_cons_zero,List.getElem?_cons_succ,List.getElem?_nil,List.getElem?_toArray,Ψc,Ψi,ΦP,ΦA,ΦB,ΦT,ΦM,ΦX,ΦK,ΦQ,ΦR,ΦY,ΦG,ΦH,ΦZ,ΦC,ΦD,Ψa,ΦL,Ψj,ΦS,Ψb,Ψd,Ψe,Ψg,Ψh,Ψn,exists_eq_left,exists_eq_left',exists_const,Ψs,Ψo,Ψp,fa_ptr,Ψu,Ψq,Ψw,Ψf,Ψr,Ψt,Ψk,T.elA_49,T.lay_49,T.szA_49,T.zr_49,Tryd.underlying49,ld_ptr,loadVC,loadN,T.szA_4,T.zr_4,Tryd.underlying4,hP,h8_3,h8_4,h8_6]
                  repeat' (first | refine iteB (fun hg => ?_) (fun hg => ?_) | refine iteI (fun hg => ?_) (fun hg => ?_) | ((first | refine ⟨by omega, ?_⟩ | refine ⟨_, Cell.at 0 rfl rfl, ?_⟩ | refine ⟨_, Cell.at 1 rfl rfl, ?_⟩ | refine ⟨_, Cell.at 2 rfl rfl, ?_⟩ | fail); try simp (maxSteps := 1000000) only [ΦU,Φy,Φz,ΦI,ev,Φi,Φu,Φn,Φo,Φx,Φw,Φa,Φp,reduceIte,reduceCtorEq,if_true,if_false,Φq,Φk,Φb,Φc,true_and,and_true,false_and,and_false,true_implies,forall_const,false_implies,ne_eq,not_true_eq_false,not_false_eq_true,decide_true,decide_false,Φv,and_self,true_or,or_true,dite_true,dite_false,Φe,Φd,decide_eq_true_eq,decide_eq_false_iff_not,Φf,Φh,Φg,Φj,beq_self_eq_true,Φr,Φs,Φt,Φl,Φm,eq_self,Ψx,Ψl,Ψm,VCops,VQops,Ψv,putVC,VC,VQ,ΦV,ΦW,ΦN,ΦO,ΦE,ΦF,ΦJ,List.getElem?_cons_zero,List.getElem?_cons_succ,List.getElem?_nil,List.getElem?_toArray,Ψc,Ψi,ΦP,ΦA,ΦB,ΦT,ΦM,ΦX,ΦK,ΦQ,ΦR,ΦY,ΦG,ΦH,ΦZ,ΦC,ΦD,Ψa,ΦL,Ψj,ΦS,Ψb,Ψd,Ψe,Ψg,Ψh,Ψn,exists_eq_left,exists_eq_left',exists_const,Ψs,Ψo,Ψp,fa_ptr,Ψu,Ψq,Ψw,Ψf,Ψr,Ψt,Ψk,T.elA_49,T.lay_49,T.szA_49,T.zr_49,Tryd.underlying49,ld_ptr,loadVC,loadN,T.szA_4,T.zr_4,Tryd.underlying4,hP,h8_3,h8_4,h8_6]) | fail)
                  all_goals (refine hK27 _ _ ?_; clear hK27 K27)
                all_goals
                  try simp (maxSteps := 1000000) only [ΦU,Φy,Φz,ΦI,ev,Φi,Φu,Φn,Φo,Φx,Φw,Φa,Φp,reduceIte,reduceCtorEq,if_true,if_false,Φq,Φk,Φb,Φc,true_and,and_true,false_and,and_false,true_implies,forall_const,false_implies,ne_eq,not_true_eq_false,not_false_eq_true,decide_true,decide_false,Φv,and_self,true_or,or_true,dite_true,dite_false,Φe,Φd,decide_eq_true_eq,decide_eq_false_iff_not,Φf,Φh,Φg,Φj,beq_self_eq_true,Φr,Φs,Φt,Φl,Φm,eq_self,Ψx,Ψl,Ψm,VCops,VQops,Ψv,putVC,VC,VQ,ΦV,ΦW,ΦN,ΦO,ΦE,ΦF,ΦJ,List.getElem?_cons_zero,List.getElem?_cons_succ,List.getElem?_nil,List.getElem?_toArray,Ψc,Ψi,ΦP,ΦA,ΦB,ΦT,ΦM,ΦX,ΦK,ΦQ,ΦR,ΦY,ΦG,ΦH,ΦZ,ΦC,ΦD,Ψa,ΦL,Ψj,ΦS,Ψb,Ψd,Ψe,Ψg,Ψh,Ψn,exists_eq_left,exists_eq_left',exists_const,Ψs,Ψo,Ψp,fa_ptr,Ψu,Ψq,Ψw,Ψf,Ψr,Ψt,Ψk,T.elA_49,T.lay_49,T.szA_49,T.zr_49,Tryd.underlying49,ld_ptr,loadVC,loadN,T.szA_4,T.zr_4,Tryd.underlying4,pick_bool,hP,h8_3,h8_4,h8_6]
                  repeat' (first | refine iteB (fun hg => ?_) (fun hg => ?_) | refine iteI (fun hg => ?_) (fun hg => ?_) | ((first | refine ⟨by omega, ?_⟩ | refine ⟨_, Cell.at 0 rfl rfl, ?_⟩ | refine ⟨_, Cell.at 1 rfl rfl, ?_⟩ | refine ⟨_, Cell.at 2 rfl rfl, ?_⟩ | fail); try simp (maxSteps := 1000000) only [ΦU,Φy,Φz,ΦI,ev,Φi,Φu,Φn,Φo,Φx,Φw,Φa,Φp,reduceIte,reduceCtorEq,if_true,if_false,Φq,Φk,Φb,Φc,true_and,and_true,false_and,and_false,true_implies,forall_const,false_implies,ne_eq,not_true_eq_false,not_false_eq_true,decide_true,decide_false,Φv,and_self,true_or,or_true,dite_true,dite_false,Φe,Φd,decide_eq_true_eq,decide_eq_false_iff_not,Φf,Φh,Φg,Φj,beq_self_eq_true,Φr,Φs,Φt,Φl,Φm,eq_self,Ψx,Ψl,Ψm,VCops,VQops,Ψv,putVC,VC,VQ,ΦV,ΦW,ΦN,ΦO,ΦE,ΦF,ΦJ,List.getElem?_cons_zero,List.getElem?_cons_succ,List.getElem?_nil,List.getElem?_toArray,Ψc,Ψi,ΦP,ΦA,ΦB,ΦT,ΦM,ΦX,ΦK,ΦQ,ΦR,ΦY,ΦG,ΦH,ΦZ,ΦC,ΦD,Ψa,ΦL,Ψj,ΦS,Ψb,Ψd,Ψe,Ψg,Ψh,Ψn,exists_eq_left,exists_eq_left',exists_const,Ψs,Ψo,Ψp,fa_ptr,Ψu,Ψq,Ψw,Ψf,Ψr,Ψt,Ψk,T.elA_49,T.lay_49,T.szA_49,T.zr_49,Tryd.underlying49,ld_ptr,loadVC,loadN,T.szA_4,T.zr_4,Tryd.underlying4,pick_bool,hP,h8_3,h8_4,h8_6]) | fail)
                all_goals
                  refine hK25 () _ (some (br, .cells #[.int .i64 0, .int .i64 0, .bool false, .int .i64 0] 24 (0, 0)) :: some (bd, .cells #[.int .u8 code, .int .u16 ad, .bool rd, .bool wr, .bool own, .int .u8 data, .int .u8 port, .bool pulse] 49 (0, 0)) :: some (bx, .cells #[.int .i64 l, .int .i64 c, .bool o, .int .i64 g1] 24 (0, 0)) :: L) _ (by first | exact Less.refl _ | exact Less.drop _ _ | exact Less.drops (Less.drop _ _) | exact Less.drops (Less.drops (Less.drop _ _)) | exact Less.drops (Less.drops (Less.drops (Less.drop _ _))) | exact Less.drops (Less.drops (Less.drops (Less.drops (Less.drop _ _))))) ?_
                  try dsimp only
                  refine ⟨?_, ?_, ?_, ?_, ?_, ?_⟩
                  · simp (maxSteps := 1000000) only [ΦU,Φy,Φz,ΦI,ev,Φi,Φu,Φn,Φo,Φx,Φw,Φa,Φp,reduceIte,reduceCtorEq,if_true,if_false,Φq,Φk,Φb,Φc,true_and,and_true,false_and,and_false,true_implies,forall_const,false_implies,ne_eq,not_true_eq_false,not_false_eq_true,decide_true,decide_false,Φv,and_self,true_or,or_true,dite_true,dite_false,Φe,Φd,decide_eq_true_eq,decide_eq_false_iff_not,Φf,Φh,Φg,Φj,beq_self_eq_true,Φr,Φs,Φt,Φl,Φm,eq_self,hP,h8_3,h8_4,h8_6]
                    first | done | simp [*]
                  · simp (maxSteps := 1000000) only [ΦU,Φy,Φz,ΦI,ev,Φi,Φu,Φn,Φo,Φx,Φw,Φa,Φp,reduceIte,reduceCtorEq,if_true,if_false,Φq,Φk,Φb,Φc,true_and,and_true,false_and,and_false,true_implies,forall_const,false_implies,ne_eq,not_true_eq_false,not_false_eq_true,decide_true,decide_false,Φv,and_self,true_or,or_true,dite_true,dite_false,Φe,Φd,decide_eq_true_eq,decide_eq_false_iff_not,Φf,Φh,Φg,Φj,beq_self_eq_true,Φr,Φs,Φt,Φl,Φm,eq_self,hP,h8_3,h8_4,h8_6]
                  · simp (maxSteps := 1000000) only [ΦU,Φy,Φz,ΦI,ev,Φi,Φu,Φn,Φo,Φx,Φw,Φa,Φp,reduceIte,reduceCtorEq,if_true,if_false,Φq,Φk,Φb,Φc,true_and,and_true,false_and,and_false,true_implies,forall_const,false_implies,ne_eq,not_true_eq_false,not_false_eq_true,decide_true,decide_false,Φv,and_self,true_or,or_true,dite_true,dite_false,Φe,Φd,decide_eq_true_eq,decide_eq_false_iff_not,Φf,Φh,Φg,Φj,beq_self_eq_true,Φr,Φs,Φt,Φl,Φm,eq_self,hP,h8_3,h8_4,h8_6]
                  · simp (maxSteps := 1000000) only [ΦU,Φy,Φz,ΦI,ev,Φi,Φu,Φn,Φo,Φx,Φw,Φa,Φp,reduceIte,reduceCtorEq,if_true,if_false,Φq,Φk,Φb,Φc,true_and,and_true,false_and,and_false,true_implies,forall_const,false_implies,ne_eq,not_true_eq_false,not_false_eq_true,decide_true,decide_false,Φv,and_self,true_or,or_true,dite_true,dite_false,Φe,Φd,decide_eq_true_eq,decide_eq_false_iff_not,Φf,Φh,Φg,Φj,beq_self_eq_true,Φr,Φs,Φt,Φl,Φm,eq_self,hP,h8_3,h8_4,h8_6]
                  · rfl
                  · trivial
              · intro ss T9 L9 hI
                simp only [h8_3, h8_4, h8_6] at hI 
                obtain ⟨h9_38, h9_3, h9_4, h9_6, hL9, hinv⟩ := hI
                replace hL9 := hL9.symm
                subst hL9
                clear h8_3 h8_4 h8_6 T8
                refine RX.done ?_
                simp (maxSteps := 1000000) only [ΦU,Φy,Φz,ΦI,ev,Φi,Φu,Φn,Φo,Φx,Φw,Φa,Φp,reduceIte,reduceCtorEq,if_true,if_false,Φq,Φk,Φb,Φc,true_and,and_true,false_and,and_false,true_implies,forall_const,false_implies,ne_eq,not_true_eq_false,not_false_eq_true,decide_true,decide_false,Φv,and_self,true_or,or_true,dite_true,dite_false,Φe,Φd,decide_eq_true_eq,decide_eq_false_iff_not,Φf,Φh,Φg,Φj,beq_self_eq_true,Φr,Φs,Φt,Φl,Φm,eq_self,Ψx,Ψl,Ψm,VCops,VQops,Ψv,putVC,VC,VQ,ΦV,ΦW,ΦN,ΦO,ΦE,ΦF,ΦJ,List.getElem?_cons_zero,List.getElem?_cons_succ,List.getElem?_nil,List.getElem?_toArray,Ψc,Ψi,ΦP,ΦA,ΦB,ΦT,ΦM,ΦX,ΦK,ΦQ,ΦR,ΦY,ΦG,ΦH,ΦZ,ΦC,ΦD,Ψa,ΦL,Ψj,ΦS,Ψb,Ψd,Ψe,Ψg,Ψh,Ψn,exists_eq_left,exists_eq_left',exists_const,Ψs,Ψo,Ψp,hP,h9_38,h9_3,h9_4,h9_6]
                refine hK24 _ _ ?_
                try clear hK24 K24
                refine SX.cond_k fun X28 Y28 hX28 hY28 => ?_
                simp (maxSteps := 1000000) only [ΦU,Φy,Φz,ΦI,ev,Φi,Φu,Φn,Φo,Φx,Φw,Φa,Φp,reduceIte,reduceCtorEq,if_true,if_false,Φq,Φk,Φb,Φc,true_and,and_true,false_and,and_false,true_implies,forall_const,false_implies,ne_eq,not_true_eq_false,not_false_eq_true,decide_true,decide_false,Φv,and_self,true_or,or_true,dite_true,dite_false,Φe,Φd,decide_eq_true_eq,decide_eq_false_iff_not,Φf,Φh,Φg,Φj,beq_self_eq_true,Φr,Φs,Φt,Φl,Φm,eq_self,hP,h9_38,h9_3,h9_4,h9_6,condVC]
                refine ⟨fun hc38 => hX28 ?_, fun hc38 => hY28 ?_⟩
                · clear hX28 hY28 X28 Y28
                  refine SX.region ?_
                  simp (maxSteps := 1000000) only [ΦU,Φy,Φz,ΦI,ev,Φi,Φu,Φn,Φo,Φx,Φw,Φa,Φp,reduceIte,reduceCtorEq,if_true,if_false,Φq,Φk,Φb,Φc,true_and,and_true,false_and,and_false,true_implies,forall_const,false_implies,ne_eq,not_true_eq_false,not_false_eq_true,decide_true,decide_false,Φv,and_self,true_or,or_true,dite_true,dite_false,Φe,Φd,decide_eq_true_eq,decide_eq_false_iff_not,Φf,Φh,Φg,Φj,beq_self_eq_true,Φr,Φs,Φt,Φl,Φm,eq_self,Ψx,Ψl,Ψm,VCops,VQops,Ψv,putVC,VC,VQ,ΦV,ΦW,ΦN,ΦO,ΦE,ΦF,ΦJ,List.getElem?_cons_zero,List.getElem?_cons_succ,List.getElem?_nil,List.getElem?_toArray,Ψc,Ψi,ΦP,ΦA,ΦB,ΦT,ΦM,ΦX,ΦK,ΦQ,ΦR,ΦY,ΦG,ΦH,ΦZ,ΦC,ΦD,Ψa,ΦL,Ψj,ΦS,Ψb,Ψd,Ψe,Ψg,Ψh,Ψn,exists_eq_left,exists_eq_left',exists_const,Ψs,Ψo,Ψp,fa_ptr,Ψu,Ψq,Ψw,Ψf,Ψr,Ψt,Ψk,T.elA_49,T.lay_49,T.szA_49,T.zr_49,Tryd.underlying49,ld_ptr,loadVC,loadN,T.szA_4,T.zr_4,Tryd.underlying4,T.elA_24,T.lay_24,T.szA_24,T.zr_24,Tryd.underlying24,st_ptr,storeVC,setN,cells_int,cells_bool,ΨB,Ψz,ΨD,cells_agg,oneB_nil,oneB_cons,one_int,one_bool,one_string,ΨE,one_slice,one_map,one_func,ΨF,ΨC,one_iface,cells_map,cells_func,ΨA,Ψy,ΨG,hP,h9_38,h9_3,h9_4,h9_6]
                  refine ⟨_, Cell.at 1 rfl rfl, ?_⟩
                  try simp (maxSteps := 1000000) only [ΦU,Φy,Φz,ΦI,ev,Φi,Φu,Φn,Φo,Φx,Φw,Φa,Φp,reduceIte,reduceCtorEq,if_true,if_false,Φq,Φk,Φb,Φc,true_and,and_true,false_and,and_false,true_implies,forall_const,false_implies,ne_eq,not_true_eq_false,not_false_eq_true,decide_true,decide_false,Φv,and_self,true_or,or_true,dite_true,dite_false,Φe,Φd,decide_eq_true_eq,decide_eq_false_iff_not,Φf,Φh,Φg,Φj,beq_self_eq_true,Φr,Φs,Φt,Φl,Φm,eq_self,Ψx,Ψl,Ψm,VCops,VQops,Ψv,putVC,VC,VQ,ΦV,ΦW,ΦN,ΦO,ΦE,ΦF,ΦJ,List.getElem?_cons_zero,List.getElem?_cons_succ,List.getElem?_nil,List.getElem?_toArray,Ψc,Ψi,ΦP,ΦA,ΦB,ΦT,ΦM,ΦX,ΦK,ΦQ,ΦR,ΦY,ΦG,ΦH,ΦZ,ΦC,ΦD,Ψa,ΦL,Ψj,ΦS,Ψb,Ψd,Ψe,Ψg,Ψh,Ψn,exists_eq_left,exists_eq_left',exists_const,Ψs,Ψo,Ψp,fa_ptr,Ψu,Ψq,Ψw,Ψf,Ψr,Ψt,Ψk,T.elA_49,T.lay_49,T.szA_49,T.zr_49,Tryd.underlying49,ld_ptr,loadVC,loadN,T.szA_4,T.zr_4,Tryd.underlying4,T.elA_24,T.lay_24,T.szA_24,T.zr_24,Tryd.underlying24,st_ptr,storeVC,setN,cells_int,cells_bool,ΨB,Ψz,ΨD,cells_agg,oneB_nil,oneB_cons,one_int,one_bool,one_string,ΨE,one_slice,one_map,one_func,ΨF,ΨC,one_iface,cells_map,cells_func,ΨA,Ψy,ΨG,hP,h9_38,h9_3,h9_4,h9_6]
                  refine ⟨2, _, _, _, rfl, by first | decide | simp, .inr (by first | decide | simp), ?_⟩
                  try simp (maxSteps := 1000000) only [ΦU,Φy,Φz,ΦI,ev,Φi,Φu,Φn,Φo,Φx,Φw,Φa,Φp,reduceIte,reduceCtorEq,if_true,if_false,Φq,Φk,Φb,Φc,true_and,and_true,false_and,and_false,true_implies,forall_const,false_implies,ne_eq,not_true_eq_false,not_false_eq_true,decide_true,decide_false,Φv,and_self,true_or,or_true,dite_true,dite_false,Φe,Φd,decide_eq_true_eq,decide_eq_false_iff_not,Φf,Φh,Φg,Φj,beq_self_eq_true,Φr,Φs,Φt,Φl,Φm,eq_self,Ψx,Ψl,Ψm,VCops,VQops,Ψv,putVC,VC,VQ,ΦV,ΦW,ΦN,ΦO,ΦE,ΦF,ΦJ,List.getElem?_cons_zero,List.getElem?_cons_succ,List.getElem?_nil,List.getElem?_toArray,Ψc,Ψi,ΦP,ΦA,ΦB,ΦT,ΦM,ΦX,ΦK,ΦQ,ΦR,ΦY,ΦG,ΦH,ΦZ,ΦC,ΦD,Ψa,ΦL,Ψj,ΦS,Ψb,Ψd,Ψe,Ψg,Ψh,Ψn,exists_eq_left,exists_eq_left',exists_const,Ψs,Ψo,Ψp,fa_ptr,Ψu,Ψq,Ψw,Ψf,Ψr,Ψt,Ψk,T.elA_49,T.lay_49,T.szA_49,T.zr_49,Tryd.underlying49,ld_ptr,loadVC,loadN,T.szA_4,T.zr_4,Tryd.underlying4,T.elA_24,T.lay_24,T.szA_24,T.zr_24,Tryd.underlying24,st_ptr,storeVC,setN,cells_int,cells_bool,ΨB,Ψz,ΨD,cells_agg,oneB_nil,oneB_cons,one_int,one_bool,one_string,ΨE,one_slice,one_map,one_func,ΨF,ΨC,one_iface,cells_map,cells_func,ΨA,Ψy,ΨG,hP,h9_38,h9_3,h9_4,h9_6]
                  refine hK23 _ _ ?_
                  try clear hK23 K23
                  refine SX.exit ?_
                  simp only [Φi, Φu, Φn, Φo, Φx, Φw, Φa, if_true, if_false, reduceIte]
                  refine hK11 wr _ (some (br, .cells #[.int .i64 0, .int .i64 0, .bool false, .int .i64 0] 24 (0, 0)) :: some (bd, .cells #[.int .u8 code, .int .u16 ad, .bool rd, .bool wr, .bool own, .int .u8 data, .int .u8 port, .bool pulse] 49 (0, 0)) :: some (bx, .cells #[.int .i64 l, .int .i64 c, .bool wr, .int .i64 g1] 24 (0, 0)) :: L) _ (by first | exact Less.refl _ | exact Less.drop _ _ | exact Less.drops (Less.drop _ _) | exact Less.drops (Less.drops (Less.drop _ _)) | exact Less.drops (Less.drops (Less.drops (Less.drop _ _))) | exact Less.drops (Less.drops (Less.drops (Less.drops (Less.drop _ _))))) ?_
                  try dsimp only
                  refine ⟨?_, ?_, ?_, ?_⟩
                  · simp (maxSteps := 1000000) only [ΦU,Φy,Φz,ΦI,ev,Φi,Φu,Φn,Φo,Φx,Φw,Φa,Φp,reduceIte,reduceCtorEq,if_true,if_false,Φq,Φk,Φb,Φc,true_and,and_true,false_and,and_false,true_implies,forall_const,false_implies,ne_eq,not_true_eq_false,not_false_eq_true,decide_true,decide_false,Φv,and_self,true_or,or_true,dite_true,dite_false,Φe,Φd,decide_eq_true_eq,decide_eq_false_iff_not,Φf,Φh,Φg,Φj,beq_self_eq_true,Φr,Φs,Φt,Φl,Φm,eq_self,hP,h9_38,h9_3,h9_4,h9_6]
                  · simp (maxSteps := 1000000) only [ΦU,Φy,Φz,ΦI,ev,Φi,Φu,Φn,Φo,Φx,Φw,Φa,Φp,reduceIte,reduceCtorEq,if_true,if_false,Φq,Φk,Φb,Φc,true_and,and_true,false_and,and_false,true_implies,forall_const,false_implies,ne_eq,not_true_eq_false,not_false_eq_true,decide_true,decide_false,Φv,and_self,true_or,or_true,dite_true,dite_false,Φe,Φd,decide_eq_true_eq,decide_eq_false_iff_not,Φf,Φh,Φg,Φj,beq_self_eq_true,Φr,Φs,Φt,Φl,Φm,eq_self,hP,h9_38,h9_3,h9_4,h9_6]
                  · rfl
                  · rw [onB, if_neg (by omega), if_pos hc38]
                · clear hX28 hY28 X28 Y28
                  refine SX.skip ?_
                  simp only [Φi, Φu, Φn, Φo, Φx, Φw, Φa, if_true, if_false, reduceIte]
                  refine hK23 _ _ ?_
                  try clear hK23 K23
                  refine SX.exit ?_
                  simp only [Φi, Φu, Φn, Φo, Φx, Φw, Φa, if_true, if_false, reduceIte]
                  refine hK11 o _ (some (br, .cells #[.int .i64 0, .int .i64 0, .bool false, .int .i64 0] 24 (0, 0)) :: some (bd, .cells #[.int .u8 code, .int .u16 ad, .bool rd, .bool wr, .bool own, .int .u8 data, .int .u8 port, .bool pulse] 49 (0, 0)) :: some (bx, .cells #[.int .i64 l, .int .i64 c, .bool o, .int .i64 g1] 24 (0, 0)) :: L) _ (by first | exact Less.refl _ | exact Less.drop _ _ | exact Less.drops (Less.drop _ _) | exact Less.drops (Less.drops (Less.drop _ _)) | exact Less.drops (Less.drops (Less.drops (Less.drop _ _))) | exact Less.drops (Less.drops (Less.drops (Less.drops (Less.drop _ _))))) ?_
                  try dsimp only
                  refine ⟨?_, ?_, ?_, ?_⟩
                  · simp (maxSteps := 1000000) only [ΦU,Φy,Φz,ΦI,ev,Φi,Φu,Φn,Φo,Φx,Φw,Φa,Φp,reduceIte,reduceCtorEq,if_true,if_false,Φq,Φk,Φb,Φc,true_and,and_true,false_and,and_false,true_implies,forall_const,false_implies,ne_eq,not_true_eq_false,not_false_eq_true,decide_true,decide_false,Φv,and_self,true_or,or_true,dite_true,dite_false,Φe,Φd,decide_eq_true_eq,decide_eq_false_iff_not,Φf,Φh,Φg,Φj,beq_self_eq_true,Φr,Φs,Φt,Φl,Φm,eq_self,hP,h9_38,h9_3,h9_4,h9_6]
                  · simp (maxSteps := 1000000) only [ΦU,Φy,Φz,ΦI,ev,Φi,Φu,Φn,Φo,Φx,Φw,Φa,Φp,reduceIte,reduceCtorEq,if_true,if_false,Φq,Φk,Φb,Φc,true_and,and_true,false_and,and_false,true_implies,forall_const,false_implies,ne_eq,not_true_eq_false,not_false_eq_true,decide_true,decide_false,Φv,and_self,true_or,or_true,dite_true,dite_false,Φe,Φd,decide_eq_true_eq,decide_eq_false_iff_not,Φf,Φh,Φg,Φj,beq_self_eq_true,Φr,Φs,Φt,Φl,Φm,eq_self,hP,h9_38,h9_3,h9_4,h9_6]
                  · rfl
                  · rw [onB, if_neg (by omega), if_neg (by rw [hc38]; decide)]
        · intro o1 T10 L10 hI
          try dsimp only at hI 
          simp only [h7_3, h7_6] at hI 
          obtain ⟨h10_3, h10_6, hL10, ho1⟩ := hI
          replace hL10 := hL10.symm
          subst hL10
          clear h7_2 h7_3 h7_4 h7_6 T7
          refine SX.seq_k fun K29 hK29 => ?_
          refine SX.region ?_
          simp (maxSteps := 1000000) only [ΦU,Φy,Φz,ΦI,ev,Φi,Φu,Φn,Φo,Φx,Φw,Φa,Φp,reduceIte,reduceCtorEq,if_true,if_false,Φq,Φk,Φb,Φc,true_and,and_true,false_and,and_false,true_implies,forall_const,false_implies,ne_eq,not_true_eq_false,not_false_eq_true,decide_true,decide_false,Φv,and_self,true_or,or_true,dite_true,dite_false,Φe,Φd,decide_eq_true_eq,decide_eq_false_iff_not,Φf,Φh,Φg,Φj,beq_self_eq_true,Φr,Φs,Φt,Φl,Φm,eq_self,Ψx,Ψl,Ψm,VCops,VQops,Ψv,putVC,VC,VQ,ΦV,ΦW,ΦN,ΦO,ΦE,ΦF,ΦJ,List.getElem?_cons_zero,List.getElem?_cons_succ,List.getElem?_nil,List.getElem?_toArray,Ψc,Ψi,ΦP,ΦA,ΦB,ΦT,ΦM,ΦX,ΦK,ΦQ,ΦR,ΦY,ΦG,ΦH,ΦZ,ΦC,ΦD,Ψa,ΦL,Ψj,ΦS,Ψb,Ψd,Ψe,Ψg,Ψh,Ψn,exists_eq_left,exists_eq_left',exists_const,Ψs,Ψo,Ψp,fa_ptr,Ψu,Ψq,Ψw,Ψf,Ψr,Ψt,Ψk,T.elA_24,T.lay_24,T.szA_24,T.zr_24,Tryd.underlying24,ld_ptr,loadVC,loadN,T.szA_3,T.zr_3,Tryd.underlying3,bin_add,bin_adds,st_ptr,storeVC,setN,cells_int,cells_bool,ΨB,Ψz,ΨD,cells_agg,oneB_nil,oneB_cons,one_int,one_bool,one_string,ΨE,one_slice,one_map,one_func,ΨF,ΨC,one_iface,cells_map,cells_func,ΨA,Ψy,ΨG,hP,h10_3,h10_6,w2]
          refine ⟨_, Cell.at 2 rfl rfl, ?_⟩
          try simp (maxSteps := 1000000) only [ΦU,Φy,Φz,ΦI,ev,Φi,Φu,Φn,Φo,Φx,Φw,Φa,Φp,reduceIte,reduceCtorEq,if_true,if_false,Φq,Φk,Φb,Φc,true_and,and_true,false_and,and_false,true_implies,forall_const,false_implies,ne_eq,not_true_eq_false,not_false_eq_true,decide_true,decide_false,Φv,and_self,true_or,or_true,dite_true,dite_false,Φe,Φd,decide_eq_true_eq,decide_eq_false_iff_not,Φf,Φh,Φg,Φj,beq_self_eq_true,Φr,Φs,Φt,Φl,Φm,eq_self,Ψx,Ψl,Ψm,VCops,VQops,Ψv,putVC,VC,VQ,ΦV,ΦW,ΦN,ΦO,ΦE,ΦF,ΦJ,List.getElem?_cons_zero,List.getElem?_cons_succ,List.getElem?_nil,List.getElem?_toArray,Ψc,Ψi,ΦP,ΦA,ΦB,ΦT,ΦM,ΦX,ΦK,ΦQ,ΦR,ΦY,ΦG,ΦH,ΦZ,ΦC,ΦD,Ψa,ΦL,Ψj,ΦS,Ψb,Ψd,Ψe,Ψg,Ψh,Ψn,exists_eq_left,exists_eq_left',exists_const,Ψs,Ψo,Ψp,fa_ptr,Ψu,Ψq,Ψw,Ψf,Ψr,Ψt,Ψk,T.elA_24,T.lay_24,T.szA_24,T.zr_24,Tryd.underlying24,ld_ptr,loadVC,loadN,T.szA_3,T.zr_3,Tryd.underlying3,bin_add,bin_adds,st_ptr,storeVC,setN,cells_int,cells_bool,ΨB,Ψz,ΨD,cells_agg,oneB_nil,oneB_cons,one_int,one_bool,one_string,ΨE,one_slice,one_map,one_func,ΨF,ΨC,one_iface,cells_map,cells_func,ΨA,Ψy,ΨG,hP,h10_3,h10_6,w2]
          refine ⟨2, _, _, _, rfl, by first | decide | simp, .inr (by first | decide | simp), ?_⟩
          try simp (maxSteps := 1000000) only [ΦU,Φy,Φz,ΦI,ev,Φi,Φu,Φn,Φo,Φx,Φw,Φa,Φp,reduceIte,reduceCtorEq,if_true,if_false,Φq,Φk,Φb,Φc,true_and,and_true,false_and,and_false,true_implies,forall_const,false_implies,ne_eq,not_true_eq_false,not_false_eq_true,decide_true,decide_false,Φv,and_self,true_or,or_true,dite_true,dite_false,Φe,Φd,decide_eq_true_eq,decide_eq_false_iff_not,Φf,Φh,Φg,Φj,beq_self_eq_true,Φr,Φs,Φt,Φl,Φm,eq_self,Ψx,Ψl,Ψm,VCops,VQops,Ψv,putVC,VC,VQ,ΦV,ΦW,ΦN,ΦO,ΦE,ΦF,ΦJ,List.getElem?_cons_zero,List.getElem?_cons_succ,List.getElem?_nil,List.getElem?_toArray,Ψc,Ψi,ΦP,ΦA,ΦB,ΦT,ΦM,ΦX,ΦK,ΦQ,ΦR,ΦY,ΦG,ΦH,ΦZ,ΦC,ΦD,Ψa,ΦL,Ψj,ΦS,Ψb,Ψd,Ψe,Ψg,Ψh,Ψn,exists_eq_left,exists_eq_left',exists_const,Ψs,Ψo,Ψp,fa_ptr,Ψu,Ψq,Ψw,Ψf,Ψr,Ψt,Ψk,T.elA_24,T.lay_24,T.szA_24,T.zr_24,Tryd.underlying24,ld_ptr,loadVC,loadN,T.szA_3,T.zr_3,Tryd.underlying3,bin_add,bin_adds,st_ptr,storeVC,setN,cells_int,cells_bool,ΨB,Ψz,ΨD,cells_agg,oneB_nil,oneB_cons,one_int,one_bool,one_string,ΨE,one_slice,one_map,one_func,ΨF,ΨC,one_iface,cells_map,cells_func,ΨA,Ψy,ΨG,hP,h10_3,h10_6,w2]
          refine hK29 _ _ ?_
          try clear hK29 K29
          refine SX.seq_k fun K30 hK30 => ?_
          refine SX.seq_k fun K31 hK31 => ?_
          refine SX.region ?_
          simp (maxSteps := 1000000) only [ΦU,Φy,Φz,ΦI,ev,Φi,Φu,Φn,Φo,Φx,Φw,Φa,Φp,reduceIte,reduceCtorEq,if_true,if_false,Φq,Φk,Φb,Φc,true_and,and_true,false_and,and_false,true_implies,forall_const,false_implies,ne_eq,not_true_eq_false,not_false_eq_true,decide_true,decide_false,Φv,and_self,true_or,or_true,dite_true,dite_false,Φe,Φd,decide_eq_true_eq,decide_eq_false_iff_not,Φf,Φh,Φg,Φj,beq_self_eq_true,Φr,Φs,Φt,Φl,Φm,eq_self,Ψx,Ψl,Ψm,VCops,VQops,Ψv,putVC,VC,VQ,ΦV,ΦW,ΦN,ΦO,ΦE,ΦF,ΦJ,List.getElem?_cons_zero,List.getElem?_cons_succ,List.getElem?_nil,List.getElem?_toArray,Ψc,Ψi,ΦP,ΦA,ΦB,ΦT,ΦM,ΦX,ΦK,ΦQ,ΦR,ΦY,ΦG,ΦH,ΦZ,ΦC,ΦD,Ψa,ΦL,Ψj,ΦS,Ψb,Ψd,Ψe,Ψg,Ψh,Ψn,exists_eq_left,exists_eq_left',exists_const,Ψs,Ψo,Ψp,fa_ptr,Ψu,Ψq,Ψw,Ψf,Ψr,Ψt,Ψk,T.elA_24,T.lay_24,T.szA_24,T.zr_24,Tryd.underlying24,ld_ptr,loadVC,loadN,T.szA_3,T.zr_3,Tryd.underlying3,bin_eql,bin_eqlb,bin_eqls,bin_eqla,hP,h10_3,h10_6]
          refine ⟨_, Cell.at 2 rfl rfl, ?_⟩
          try simp (maxSteps := 1000000) only [ΦU,Φy,Φz,ΦI,ev,Φi,Φu,Φn,Φo,Φx,Φw,Φa,Φp,reduceIte,reduceCtorEq,if_true,if_false,Φq,Φk,Φb,Φc,true_and,and_true,false_and,and_false,true_implies,forall_const,false_implies,ne_eq,not_true_eq_false,not_false_eq_true,decide_true,decide_false,Φv,and_self,true_or,or_true,dite_true,dite_false,Φe,Φd,decide_eq_true_eq,decide_eq_false_iff_not,Φf,Φh,Φg,Φj,beq_self_eq_true,Φr,Φs,Φt,Φl,Φm,eq_self,Ψx,Ψl,Ψm,VCops,VQops,Ψv,putVC,VC,VQ,ΦV,ΦW,ΦN,ΦO,ΦE,ΦF,ΦJ,List.getElem?_cons_zero,List.getElem?_cons_succ,List.getElem?_nil,List.getElem?_toArray,Ψc,Ψi,ΦP,ΦA,ΦB,ΦT,ΦM,ΦX,ΦK,ΦQ,ΦR,ΦY,ΦG,ΦH,ΦZ,ΦC,ΦD,Ψa,ΦL,Ψj,ΦS,Ψb,Ψd,Ψe,Ψg,Ψh,Ψn,exists_eq_left,exists_eq_left',exists_const,Ψs,Ψo,Ψp,fa_ptr,Ψu,Ψq,Ψw,Ψf,Ψr,Ψt,Ψk,T.elA_24,T.lay_24,T.szA_24,T.zr_24,Tryd.underlying24,ld_ptr,loadVC,loadN,T.szA_3,T.zr_3,Tryd.underlying3,bin_eql,bin_eqlb,bin_eqls,bin_eqla,hP,h10_3,h10_6]
          refine hK31 _ _ ?_
          try clear hK31 K31
          refine SX.cond_k fun X32 Y32 hX32 hY32 => ?_
          simp (maxSteps := 1000000) only [ΦU,Φy,Φz,ΦI,ev,Φi,Φu,Φn,Φo,Φx,Φw,Φa,Φp,reduceIte,reduceCtorEq,if_true,if_false,Φq,Φk,Φb,Φc,true_and,and_true,false_and,and_false,true_implies,forall_const,false_implies,ne_eq,not_true_eq_false,not_false_eq_true,decide_true,decide_false,Φv,and_self,true_or,or_true,dite_true,dite_false,Φe,Φd,decide_eq_true_eq,decide_eq_false_iff_not,Φf,Φh,Φg,Φj,beq_self_eq_true,Φr,Φs,Φt,Φl,Φm,eq_self,hP,h10_3,h10_6,condVC]
          refine ⟨fun hc48 => hX32 ?_, fun hc48 => hY32 ?_⟩
          · clear hX32 hY32 X32 Y32
            refine SX.seq_k fun K33 hK33 => ?_
            refine SX.region ?_
            simp (maxSteps := 1000000) only [ΦU,Φy,Φz,ΦI,ev,Φi,Φu,Φn,Φo,Φx,Φw,Φa,Φp,reduceIte,reduceCtorEq,if_true,if_false,Φq,Φk,Φb,Φc,true_and,and_true,false_and,and_false,true_implies,forall_const,false_implies,ne_eq,not_true_eq_false,not_false_eq_true,decide_true,decide_false,Φv,and_self,true_or,or_true,dite_true,dite_false,Φe,Φd,decide_eq_true_eq,decide_eq_false_iff_not,Φf,Φh,Φg,Φj,beq_self_eq_true,Φr,Φs,Φt,Φl,Φm,eq_self,Ψx,Ψl,Ψm,VCops,VQops,Ψv,putVC,VC,VQ,ΦV,ΦW,ΦN,ΦO,ΦE,ΦF,ΦJ,List.getElem?_cons_zero,List.getElem?_cons_succ,List.getElem?_nil,List.getElem?_toArray,Ψc,Ψi,ΦP,ΦA,ΦB,ΦT,ΦM,ΦX,ΦK,ΦQ,ΦR,ΦY,ΦG,ΦH,ΦZ,ΦC,ΦD,Ψa,ΦL,Ψj,ΦS,Ψb,Ψd,Ψe,Ψg,Ψh,Ψn,exists_eq_left,exists_eq_left',exists_const,Ψs,Ψo,Ψp,fa_ptr,Ψu,Ψq,Ψw,Ψf,Ψr,Ψt,Ψk,T.elA_24,T.lay_24,T.szA_24,T.zr_24,Tryd.underlying24,st_ptr,storeVC,setN,cells_int,cells_bool,ΨB,Ψz,ΨD,cells_agg,oneB_nil,oneB_cons,one_int,one_bool,one_string,ΨE,one_slice,one_map,one_func,ΨF,ΨC,one_iface,cells_map,cells_func,ΨA,Ψy,ΨG,T.szA_3,T.zr_3,Tryd.underlying3,hP,h10_3,h10_6]
            refine ⟨2, _, _, _, rfl, by first | decide | simp, .inr (by first | decide | simp), ?_⟩
            try simp (maxSteps := 1000000) only [ΦU,Φy,Φz,ΦI,ev,Φi,Φu,Φn,Φo,Φx,Φw,Φa,Φp,reduceIte,reduceCtorEq,if_true,if_false,Φq,Φk,Φb,Φc,true_and,and_true,false_and,and_false,true_implies,forall_const,false_implies,ne_eq,not_true_eq_false,not_false_eq_true,decide_true,decide_false,Φv,and_self,true_or,or_true,dite_true,dite_false,Φe,Φd,decide_eq_true_eq,decide_eq_false_iff_not,Φf,Φh,Φg,Φj,beq_self_eq_true,Φr,Φs,Φt,Φl,Φm,eq_self,Ψx,Ψl,Ψm,VCops,VQops,Ψv,putVC,VC,VQ,ΦV,ΦW,ΦN,ΦO,ΦE,ΦF,ΦJ,List.getElem?_cons_zero,List.getElem?_cons_succ,List.getElem?_nil,List.getElem?_toArray,Ψc,Ψi,ΦP,ΦA,ΦB,ΦT,ΦM,ΦX,ΦK,ΦQ,ΦR,ΦY,ΦG,ΦH,ΦZ,ΦC,ΦD,Ψa,ΦL,Ψj,ΦS,Ψb,Ψd,Ψe,Ψg,Ψh,Ψn,exists_eq_left,exists_eq_left',exists_const,Ψs,Ψo,Ψp,fa_ptr,Ψu,Ψq,Ψw,Ψf,Ψr,Ψt,Ψk,T.elA_24,T.lay_24,T.szA_24,T.zr_24,Tryd.underlying24,st_ptr,storeVC,setN,cells_int,cells_bool,ΨB,Ψz,ΨD,cells_agg,oneB_nil,oneB_cons,one_int,one_bool,one_string,ΨE,one_slice,one_map,one_func,ΨF,ΨC,one_iface,cells_map,cells_func,ΨA,Ψy,ΨG,T.szA_3,T.zr_3,Tryd.underlying3,hP,h10_3,h10_6]
            refine ⟨2, _, _, _, rfl, by first | decide | simp, .inr (by first | decide | simp), ?_⟩
            try simp (maxSteps := 1000000) only [ΦU,Φy,Φz,ΦI,ev,Φi,Φu,Φn,Φo,Φx,Φw,Φa,Φp,reduceIte,reduceCtorEq,if_true,if_false,Φq,Φk,Φb,Φc,true_and,and_true,false_and,and_false,true_implies,forall_const,false_implies,ne_eq,not_true_eq_false,not_false_eq_true,decide_true,decide_false,Φv,and_self,true_or,or_true,dite_true,dite_false,Φe,Φd,decide_eq_true_eq,decide_eq_false_iff_not,Φf,Φh,Φg,Φj,beq_self_eq_true,Φr,Φs,Φt,Φl,Φm,eq_self,Ψx,Ψl,Ψm,VCops,VQops,Ψv,putVC,VC,VQ,ΦV,ΦW,ΦN,ΦO,ΦE,ΦF,ΦJ,List.getElem?_cons_zero,List.getElem?_cons_succ,List.getElem?_nil,List.getElem?_toArray,Ψc,Ψi,ΦP,ΦA,ΦB,ΦT,ΦM,ΦX,ΦK,ΦQ,ΦR,ΦY,ΦG,ΦH,ΦZ,ΦC,ΦD,Ψa,ΦL,Ψj,ΦS,Ψb,Ψd,Ψe,Ψg,Ψh,Ψn,exists_eq_left,exists_eq_left',exists_const,Ψs,Ψo,Ψp,fa_ptr,Ψu,Ψq,Ψw,Ψf,Ψr,Ψt,Ψk,T.elA_24,T.lay_24,T.szA_24,T.zr_24,Tryd.underlying24,st_ptr,storeVC,setN,cells_int,cells_bool,ΨB,Ψz,ΨD,cells_agg,oneB_nil,oneB_cons,one_int,one_bool,one_string,ΨE,one_slice,one_map,one_func,ΨF,ΨC,one_iface,cells_map,cells_func,ΨA,Ψy,ΨG,T.szA_3,T.zr_3,Tryd.underlying3,hP,h10_3,h10_6]
            refine hK33 _ _ ?_
            try clear hK33 K33
            refine SX.live [3, 6] (fun T11 hT11 => ?_)
            simp only [ΨH,forall_mem_nil',ΦU,Φy,Φz,ΦI,ev,Φi,Φu,Φn,Φo,Φx,Φw,Φa,Φp,reduceIte,reduceCtorEq,if_true,if_false,Φq,Φk,Φb,Φc,true_and,and_true,false_and,and_false,true_implies,forall_const,false_implies,ne_eq,not_true_eq_false,not_false_eq_true,decide_true,decide_false,Φv,and_self,true_or,or_true,dite_true,dite_false,Φe,Φd,decide_eq_true_eq,decide_eq_false_iff_not,Φf,Φh,Φg,Φj,beq_self_eq_true,Φr,Φs,Φt,Φl,Φm,eq_self,hP,h10_3,h10_6] at hT11
            obtain ⟨h11_3, h11_6⟩ := hT11
            clear h10_3 h10_6 T10
            refine SX.region ?_
            simp (maxSteps := 1000000) only [ΦU,Φy,Φz,ΦI,ev,Φi,Φu,Φn,Φo,Φx,Φw,Φa,Φp,reduceIte,reduceCtorEq,if_true,if_false,Φq,Φk,Φb,Φc,true_and,and_true,false_and,and_false,true_implies,forall_const,false_implies,ne_eq,not_true_eq_false,not_false_eq_true,decide_true,decide_false,Φv,and_self,true_or,or_true,dite_true,dite_false,Φe,Φd,decide_eq_true_eq,decide_eq_false_iff_not,Φf,Φh,Φg,Φj,beq_self_eq_true,Φr,Φs,Φt,Φl,Φm,eq_self,Ψx,Ψl,Ψm,VCops,VQops,Ψv,putVC,VC,VQ,ΦV,ΦW,ΦN,ΦO,ΦE,ΦF,ΦJ,List.getElem?_cons_zero,List.getElem?_cons_succ,List.getElem?_nil,List.getElem?_toArray,Ψc,Ψi,ΦP,ΦA,ΦB,ΦT,ΦM,ΦX,ΦK,ΦQ,ΦR,ΦY,ΦG,ΦH,ΦZ,ΦC,ΦD,Ψa,ΦL,Ψj,ΦS,Ψb,Ψd,Ψe,Ψg,Ψh,Ψn,exists_eq_left,exists_eq_left',exists_const,Ψs,Ψo,Ψp,fa_ptr,Ψu,Ψq,Ψw,Ψf,Ψr,Ψt,Ψk,T.elA_24,T.lay_24,T.szA_24,T.zr_24,Tryd.underlying24,ld_ptr,loadVC,loadN,T.szA_3,T.zr_3,Tryd.underlying3,bin_add,bin_adds,bin_rem,st_ptr,storeVC,setN,cells_int,cells_bool,ΨB,Ψz,ΨD,cells_agg,oneB_nil,oneB_cons,one_int,one_bool,one_string,ΨE,one_slice,one_map,one_func,ΨF,ΨC,one_iface,cells_map,cells_func,ΨA,Ψy,ΨG,hP,h11_3,h11_6,w3]
            refine ⟨_, Cell.at 2 rfl rfl, ?_⟩
            try simp (maxSteps := 1000000) only [ΦU,Φy,Φz,ΦI,ev,Φi,Φu,Φn,Φo,Φx,Φw,Φa,Φp,reduceIte,reduceCtorEq,if_true,if_false,Φq,Φk,Φb,Φc,true_and,and_true,false_and,and_false,true_implies,forall_const,false_implies,ne_eq,not_true_eq_false,not_false_eq_true,decide_true,decide_false,Φv,and_self,true_or,or_true,dite_true,dite_false,Φe,Φd,decide_eq_true_eq,decide_eq_false_iff_not,Φf,Φh,Φg,Φj,beq_self_eq_true,Φr,Φs,Φt,Φl,Φm,eq_self,Ψx,Ψl,Ψm,VCops,VQops,Ψv,putVC,VC,VQ,ΦV,ΦW,ΦN,ΦO,ΦE,ΦF,ΦJ,List.getElem?_cons_zero,List.getElem?_cons_succ,List.getElem?_nil,List.getElem?_toArray,Ψc,Ψi,ΦP,ΦA,ΦB,ΦT,ΦM,ΦX,ΦK,ΦQ,ΦR,ΦY,ΦG,ΦH,ΦZ,ΦC,ΦD,Ψa,ΦL,Ψj,ΦS,Ψb,Ψd,Ψe,Ψg,Ψh,Ψn,exists_eq_left,exists_eq_left',exists_const,Ψs,Ψo,Ψp,fa_ptr,Ψu,Ψq,Ψw,Ψf,Ψr,Ψt,Ψk,T.elA_24,T.lay_24,T.szA_24,T.zr_24,Tryd.underlying24,ld_ptr,loadVC,loadN,T.szA_3,T.zr_3,Tryd.underlying3,bin_add,bin_adds,bin_rem,st_ptr,storeVC,setN,cells_int,cells_bool,ΨB,Ψz,ΨD,cells_agg,oneB_nil,oneB_cons,one_int,one_bool,one_string,ΨE,one_slice,one_map,one_func,ΨF,ΨC,one_iface,cells_map,cells_func,ΨA,Ψy,ΨG,hP,h11_3,h11_6,w3]
            refine ⟨2, _, _, _, rfl, by first | decide | simp, .inr (by first | decide | simp), ?_⟩
            try simp (maxSteps := 1000000) only [ΦU,Φy,Φz,ΦI,ev,Φi,Φu,Φn,Φo,Φx,Φw,Φa,Φp,reduceIte,reduceCtorEq,if_true,if_false,Φq,Φk,Φb,Φc,true_and,and_true,false_and,and_false,true_implies,forall_const,false_implies,ne_eq,not_true_eq_false,not_false_eq_true,decide_true,decide_false,Φv,and_self,true_or,or_true,dite_true,dite_false,Φe,Φd,decide_eq_true_eq,decide_eq_false_iff_not,Φf,Φh,Φg,Φj,beq_self_eq_true,Φr,Φs,Φt,Φl,Φm,eq_self,Ψx,Ψl,Ψm,VCops,VQops,Ψv,putVC,VC,VQ,ΦV,ΦW,ΦN,ΦO,ΦE,ΦF,ΦJ,List.getElem?_cons_zero,List.getElem?_cons_succ,List.getElem?_nil,List.getElem?_toArray,Ψc,Ψi,ΦP,ΦA,ΦB,ΦT,ΦM,ΦX,ΦK,ΦQ,ΦR,ΦY,ΦG,ΦH,ΦZ,ΦC,ΦD,Ψa,ΦL,Ψj,ΦS,Ψb,Ψd,Ψe,Ψg,Ψh,Ψn,exists_eq_left,exists_eq_left',exists_const,Ψs,Ψo,Ψp,fa_ptr,Ψu,Ψq,Ψw,Ψf,Ψr,Ψt,Ψk,T.elA_24,T.lay_24,T.szA_24,T.zr_24,Tryd.underlying24,ld_ptr,loadVC,loadN,T.szA_3,T.zr_3,Tryd.underlying3,bin_add,bin_adds,bin_rem,st_ptr,storeVC,setN,cells_int,cells_bool,ΨB,Ψz,ΨD,cells_agg,oneB_nil,oneB_cons,one_int,one_bool,one_string,ΨE,one_slice,one_map,one_func,ΨF,ΨC,one_iface,cells_map,cells_func,ΨA,Ψy,ΨG,hP,h11_3,h11_6,w3]
            refine hK30 _ _ ?_
            try clear hK30 K30
            refine SX.seq_k fun K34 hK34 => ?_
            refine SX.region ?_
            simp (maxSteps := 1000000) only [ΦU,Φy,Φz,ΦI,ev,Φi,Φu,Φn,Φo,Φx,Φw,Φa,Φp,reduceIte,reduceCtorEq,if_true,if_false,Φq,Φk,Φb,Φc,true_and,and_true,false_and,and_false,true_implies,forall_const,false_implies,ne_eq,not_true_eq_false,not_false_eq_true,decide_true,decide_false,Φv,and_self,true_or,or_true,dite_true,dite_false,Φe,Φd,decide_eq_true_eq,decide_eq_false_iff_not,Φf,Φh,Φg,Φj,beq_self_eq_true,Φr,Φs,Φt,Φl,Φm,eq_self,Ψx,Ψl,Ψm,VCops,VQops,Ψv,putVC,VC,VQ,ΦV,ΦW,ΦN,ΦO,ΦE,ΦF,ΦJ,List.getElem?_cons_zero,List.getElem?_cons_succ,List.getElem?_nil,List.getElem?_toArray,Ψc,Ψi,ΦP,ΦA,ΦB,ΦT,ΦM,ΦX,ΦK,ΦQ,ΦR,ΦY,ΦG,ΦH,ΦZ,ΦC,ΦD,Ψa,ΦL,Ψj,ΦS,Ψb,Ψd,Ψe,Ψg,Ψh,Ψn,exists_eq_left,exists_eq_left',exists_const,Ψs,Ψo,Ψp,ld_ptr,loadVC,loadN,Ψu,Ψq,Ψw,Ψf,Ψr,Ψt,Ψk,T.elA_24,T.lay_24,T.szA_24,T.zr_24,Tryd.underlying24,st_ptr,storeVC,setN,cells_int,cells_bool,ΨB,Ψz,ΨD,cells_agg,oneB_nil,oneB_cons,one_int,one_bool,one_string,ΨE,one_slice,one_map,one_func,ΨF,ΨC,one_iface,cells_map,cells_func,ΨA,Ψy,ΨG,hP,h11_3,h11_6]
            refine ⟨_, Cell.at 2 rfl rfl, _, Cell.at 2 rfl rfl, _, Cell.at 2 rfl rfl, _, Cell.at 2 rfl rfl, ?_⟩
            try simp (maxSteps := 1000000) only [ΦU,Φy,Φz,ΦI,ev,Φi,Φu,Φn,Φo,Φx,Φw,Φa,Φp,reduceIte,reduceCtorEq,if_true,if_false,Φq,Φk,Φb,Φc,true_and,and_true,false_and,and_false,true_implies,forall_const,false_implies,ne_eq,not_true_eq_false,not_false_eq_true,decide_true,decide_false,Φv,and_self,true_or,or_true,dite_true,dite_false,Φe,Φd,decide_eq_true_eq,decide_eq_false_iff_not,Φf,Φh,Φg,Φj,beq_self_eq_true,Φr,Φs,Φt,Φl,Φm,eq_self,Ψx,Ψl,Ψm,VCops,VQops,Ψv,putVC,VC,VQ,ΦV,ΦW,ΦN,ΦO,ΦE,ΦF,ΦJ,List.getElem?_cons_zero,List.getElem?_cons_succ,List.getElem?_nil,List.getElem?_toArray,Ψc,Ψi,ΦP,ΦA,ΦB,ΦT,ΦM,ΦX,ΦK,ΦQ,ΦR,ΦY,ΦG,ΦH,ΦZ,ΦC,ΦD,Ψa,ΦL,Ψj,ΦS,Ψb,Ψd,Ψe,Ψg,Ψh,Ψn,exists_eq_left,exists_eq_left',exists_const,Ψs,Ψo,Ψp,ld_ptr,loadVC,loadN,Ψu,Ψq,Ψw,Ψf,Ψr,Ψt,Ψk,T.elA_24,T.lay_24,T.szA_24,T.zr_24,Tryd.underlying24,st_ptr,storeVC,setN,cells_int,cells_bool,ΨB,Ψz,ΨD,cells_agg,oneB_nil,oneB_cons,one_int,one_bool,one_string,ΨE,one_slice,one_map,one_func,ΨF,ΨC,one_iface,cells_map,cells_func,ΨA,Ψy,ΨG,hP,h11_3,h11_6]
            refine ⟨0, _, _, _, rfl, by first | decide | simp, .inr (by first | decide | simp), ?_⟩
            try simp (maxSteps := 1000000) only [ΦU,Φy,Φz,ΦI,ev,Φi,Φu,Φn,Φo,Φx,Φw,Φa,Φp,reduceIte,reduceCtorEq,if_true,if_false,Φq,Φk,Φb,Φc,true_and,and_true,false_and,and_false,true_implies,forall_const,false_implies,ne_eq,not_true_eq_false,not_false_eq_true,decide_true,decide_false,Φv,and_self,true_or,or_true,dite_true,dite_false,Φe,Φd,decide_eq_true_eq,decide_eq_false_iff_not,Φf,Φh,Φg,Φj,beq_self_eq_true,Φr,Φs,Φt,Φl,Φm,eq_self,Ψx,Ψl,Ψm,VCops,VQops,Ψv,putVC,VC,VQ,ΦV,ΦW,ΦN,ΦO,ΦE,ΦF,ΦJ,List.getElem?_cons_zero,List.getElem?_cons_succ,List.getElem?_nil,List.getElem?_toArray,Ψc,Ψi,ΦP,ΦA,ΦB,ΦT,ΦM,ΦX,ΦK,ΦQ,ΦR,ΦY,ΦG,ΦH,ΦZ,ΦC,ΦD,Ψa,ΦL,Ψj,ΦS,Ψb,Ψd,Ψe,Ψg,Ψh,Ψn,exists_eq_left,exists_eq_left',exists_const,Ψs,Ψo,Ψp,ld_ptr,loadVC,loadN,Ψu,Ψq,Ψw,Ψf,Ψr,Ψt,Ψk,T.elA_24,T.lay_24,T.szA_24,T.zr_24,Tryd.underlying24,st_ptr,storeVC,setN,cells_int,cells_bool,ΨB,Ψz,ΨD,cells_agg,oneB_nil,oneB_cons,one_int,one_bool,one_string,ΨE,one_slice,one_map,one_func,ΨF,ΨC,one_iface,cells_map,cells_func,ΨA,Ψy,ΨG,hP,h11_3,h11_6]
            refine hK34 _ _ ?_
            try clear hK34 K34
            refine SX.ret ?_
            simp only [Φi, Φu, Φn, Φo, Φx, Φw, Φa, if_true, if_false, reduceIte, retQ_ret]
            try simp only [res0,res1,res2,res3,resX,resK,oneOr,ld_ptr,loadVC,loadN,ΦT,ΦM,Ψb,Ψg,Ψh,Ψu,Ψq,Ψw,T.elA_24,T.lay_24,T.szA_24,T.zr_24,Tryd.underlying24,ΦU,Φy,Φz,ΦI,ev,Φi,Φu,Φn,Φo,Φx,Φw,Φa,Φp,reduceIte,reduceCtorEq,if_true,if_false,Φq,Φk,Φb,Φc,true_and,and_true,false_and,and_false,true_implies,forall_const,false_implies,ne_eq,not_true_eq_false,not_false_eq_true,decide_true,decide_false,Φv,and_self,true_or,or_true,dite_true,dite_false,Φe,Φd,decide_eq_true_eq,decide_eq_false_iff_not,Φf,Φh,Φg,Φj,beq_self_eq_true,Φr,Φs,Φt,Φl,Φm,eq_self,hP,h11_3,h11_6]
            refine ⟨_, L, (by first | exact Less.refl _ | exact Less.drop _ _ | exact Less.drops (Less.drop _ _) | exact Less.drops (Less.drops (Less.drop _ _)) | exact Less.drops (Less.drops (Less.drops (Less.drop _ _))) | exact Less.drops (Less.drops (Less.drops (Less.drops (Less.drop _ _))))), ⟨_, Cell.at 0 rfl rfl, _, Cell.at 0 rfl rfl, _, Cell.at 0 rfl rfl, _, Cell.at 0 rfl rfl, rfl⟩, ?_, rfl⟩
            rw [step, if_pos ⟨hok, hm3⟩, if_pos hc48, tm262 (by omega) (by omega), ← ho1]
          · clear hX32 hY32 X32 Y32
            refine SX.skip ?_
            simp only [Φi, Φu, Φn, Φo, Φx, Φw, Φa, if_true, if_false, reduceIte]
            refine hK30 _ _ ?_
            try clear hK30 K30
            refine SX.seq_k fun K35 hK35 => ?_
            refine SX.region ?_
            simp (maxSteps := 1000000) only [ΦU,Φy,Φz,ΦI,ev,Φi,Φu,Φn,Φo,Φx,Φw,Φa,Φp,reduceIte,reduceCtorEq,if_true,if_false,Φq,Φk,Φb,Φc,true_and,and_true,false_and,and_false,true_implies,forall_const,false_implies,ne_eq,not_true_eq_false,not_false_eq_true,decide_true,decide_false,Φv,and_self,true_or,or_true,dite_true,dite_false,Φe,Φd,decide_eq_true_eq,decide_eq_false_iff_not,Φf,Φh,Φg,Φj,beq_self_eq_true,Φr,Φs,Φt,Φl,Φm,eq_self,Ψx,Ψl,Ψm,VCops,VQops,Ψv,putVC,VC,VQ,ΦV,ΦW,ΦN,ΦO,ΦE,ΦF,ΦJ,List.getElem?_cons_zero,List.getElem?_cons_succ,List.getElem?_nil,List.getElem?_toArray,Ψc,Ψi,ΦP,ΦA,ΦB,ΦT,ΦM,ΦX,ΦK,ΦQ,ΦR,ΦY,ΦG,ΦH,ΦZ,ΦC,ΦD,Ψa,ΦL,Ψj,ΦS,Ψb,Ψd,Ψe,Ψg,Ψh,Ψn,exists_eq_left,exists_eq_left',exists_const,Ψs,Ψo,Ψp,ld_ptr,loadVC,loadN,Ψu,Ψq,Ψw,Ψf,Ψr,Ψt,Ψk,T.elA_24,T.lay_24,T.szA_24,T.zr_24,Tryd.underlying24,st_ptr,storeVC,setN,cells_int,cells_bool,ΨB,Ψz,ΨD,cells_agg,oneB_nil,oneB_cons,one_int,one_bool,one_string,ΨE,one_slice,one_map,one_func,ΨF,ΨC,one_iface,cells_map,cells_func,ΨA,Ψy,ΨG,hP,h10_3,h10_6]
            refine ⟨_, Cell.at 2 rfl rfl, _, Cell.at 2 rfl rfl, _, Cell.at 2 rfl rfl, _, Cell.at 2 rfl rfl, ?_⟩
            try simp (maxSteps := 1000000) only [ΦU,Φy,Φz,ΦI,ev,Φi,Φu,Φn,Φo,Φx,Φw,Φa,Φp,reduceIte,reduceCtorEq,if_true,if_false,Φq,Φk,Φb,Φc,true_and,and_true,false_and,and_false,true_implies,forall_const,false_implies,ne_eq,not_true_eq_false,not_false_eq_true,decide_true,decide_false,Φv,and_self,true_or,or_true,dite_true,dite_false,Φe,Φd,decide_eq_true_eq,decide_eq_false_iff_not,Φf,Φh,Φg,Φj,beq_self_eq_true,Φr,Φs,Φt,Φl,Φm,eq_self,Ψx,Ψl,Ψm,VCops,VQops,Ψv,putVC,VC,VQ,ΦV,ΦW,ΦN,ΦO,ΦE,ΦF,ΦJ,List.getElem?_cons_zero,List.getElem?_cons_succ,List.getElem?_nil,List.getElem?_toArray,Ψc,Ψi,ΦP,ΦA,ΦB,ΦT,ΦM,ΦX,ΦK,ΦQ,ΦR,ΦY,ΦG,ΦH,ΦZ,ΦC,ΦD,Ψa,ΦL,Ψj,ΦS,Ψb,Ψd,Ψe,Ψg,Ψh,Ψn,exists_eq_left,exists_eq_left',exists_const,Ψs,Ψo,Ψp,ld_ptr,loadVC,loadN,Ψu,Ψq,Ψw,Ψf,Ψr,Ψt,Ψk,T.elA_24,T.lay_24,T.szA_24,T.zr_24,Tryd.underlying24,st_ptr,storeVC,setN,cells_int,cells_bool,ΨB,Ψz,ΨD,cells_agg,oneB_nil,oneB_cons,one_int,one_bool,one_string,ΨE,one_slice,one_map,one_func,ΨF,ΨC,one_iface,cells_map,cells_func,ΨA,Ψy,ΨG,hP,h10_3,h10_6]
            refine ⟨0, _, _, _, rfl, by first | decide | simp, .inr (by first | decide | simp), ?_⟩
            try simp (maxSteps := 1000000) only [ΦU,Φy,Φz,ΦI,ev,Φi,Φu,Φn,Φo,Φx,Φw,Φa,Φp,reduceIte,reduceCtorEq,if_true,if_false,Φq,Φk,Φb,Φc,true_and,and_true,false_and,and_false,true_implies,forall_const,false_implies,ne_eq,not_true_eq_false,not_false_eq_true,decide_true,decide_false,Φv,and_self,true_or,or_true,dite_true,dite_false,Φe,Φd,decide_eq_true_eq,decide_eq_false_iff_not,Φf,Φh,Φg,Φj,beq_self_eq_true,Φr,Φs,Φt,Φl,Φm,eq_self,Ψx,Ψl,Ψm,VCops,VQops,Ψv,putVC,VC,VQ,ΦV,ΦW,ΦN,ΦO,ΦE,ΦF,ΦJ,List.getElem?_cons_zero,List.getElem?_cons_succ,List.getElem?_nil,List.getElem?_toArray,Ψc,Ψi,ΦP,ΦA,ΦB,ΦT,ΦM,ΦX,ΦK,ΦQ,ΦR,ΦY,ΦG,ΦH,ΦZ,ΦC,ΦD,Ψa,ΦL,Ψj,ΦS,Ψb,Ψd,Ψe,Ψg,Ψh,Ψn,exists_eq_left,exists_eq_left',exists_const,Ψs,Ψo,Ψp,ld_ptr,loadVC,loadN,Ψu,Ψq,Ψw,Ψf,Ψr,Ψt,Ψk,T.elA_24,T.lay_24,T.szA_24,T.zr_24,Tryd.underlying24,st_ptr,storeVC,setN,cells_int,cells_bool,ΨB,Ψz,ΨD,cells_agg,oneB_nil,oneB_cons,one_int,one_bool,one_string,ΨE,one_slice,one_map,one_func,ΨF,ΨC,one_iface,cells_map,cells_func,ΨA,Ψy,ΨG,hP,h10_3,h10_6]
            refine hK35 _ _ ?_
            try clear hK35 K35
            refine SX.ret ?_
            simp only [Φi, Φu, Φn, Φo, Φx, Φw, Φa, if_true, if_false, reduceIte, retQ_ret]
            try simp only [res0,res1,res2,res3,resX,resK,oneOr,ld_ptr,loadVC,loadN,ΦT,ΦM,Ψb,Ψg,Ψh,Ψu,Ψq,Ψw,T.elA_24,T.lay_24,T.szA_24,T.zr_24,Tryd.underlying24,ΦU,Φy,Φz,ΦI,ev,Φi,Φu,Φn,Φo,Φx,Φw,Φa,Φp,reduceIte,reduceCtorEq,if_true,if_false,Φq,Φk,Φb,Φc,true_and,and_true,false_and,and_false,true_implies,forall_const,false_implies,ne_eq,not_true_eq_false,not_false_eq_true,decide_true,decide_false,Φv,and_self,true_or,or_true,dite_true,dite_false,Φe,Φd,decide_eq_true_eq,decide_eq_false_iff_not,Φf,Φh,Φg,Φj,beq_self_eq_true,Φr,Φs,Φt,Φl,Φm,eq_self,hP,h10_3,h10_6]
            refine ⟨_, L, (by first | exact Less.refl _ | exact Less.drop _ _ | exact Less.drops (Less.drop _ _) | exact Less.drops (Less.drops (Less.drop _ _)) | exact Less.drops (Less.drops (Less.drops (Less.drop _ _))) | exact Less.drops (Less.drops (Less.drops (Less.drops (Less.drop _ _))))), ⟨_, Cell.at 0 rfl rfl, _, Cell.at 0 rfl rfl, _, Cell.at 0 rfl rfl, _, Cell.at 0 rfl rfl, rfl⟩, ?_, rfl⟩
            rw [step, if_pos ⟨hok, hm3⟩, if_neg hc48, ← ho1, ← hg1]

end Go.Proofs.YtpakphgeichopaaDoor
set_option linter.unusedVariables false
set_option linter.unusedSimpArgs false
namespace Go.Proofs.YtpakphgeichopaaDoor
open Go.RowKit Go.SX
def nx (x : Ras) : Ras := step x.1 x.2.1 x.2.2.1 x.2.2.2 0 0 true false 0
abbrev okR (x : Ras) : Bool := okB x.1 x.2.1 x.2.2.2
theorem okB_of {l c g : Int} (h : (0 ≤ l ∧ l < 262 ∧ 0 ≤ c ∧ c < 14 ∧ 0 ≤ g ∧ g ≤ 8 ∧ (g = 0 ∨ 80 ≤ l ∧ l ≤ 207 ∧ g ≤ c - 2))) : okB l c g = true := decide_eq_true h
theorem of_okB {l c g : Int} (h : okB l c g = true) : (0 ≤ l ∧ l < 262 ∧ 0 ≤ c ∧ c < 14 ∧ 0 ≤ g ∧ g ≤ 8 ∧ (g = 0 ∨ 80 ≤ l ∧ l ≤ 207 ∧ g ≤ c - 2)) := of_decide_eq_true h
def P (x : Ras) : Nat := 14 * x.1.toNat + x.2.1.toNat
end Go.Proofs.YtpakphgeichopaaDoor
set_option linter.unusedVariables false
set_option linter.unusedSimpArgs false
/-! A range over a function: the round's code, and the iterator's code between two rounds, by the walk by lists. -/
namespace Go.SX
open Go.RowKit
section
variable {Γ : Ctx} {n : Nat} {T : Env} {L : Hp}
/-- In a round, or outside one: no fence else. -/
abbrev FR (ro : Option Nat) : Fence := { Fence.wide with round := ro }
theorem callsIn_FR {ro : Option Nat} {m : Nat} {P : Program} {f : FuncId} {args : Array Value} {w : World} {R : Ending → World → Prop} : CallsIn (FR ro) m P f args w R ↔ Calls P f args w R :=
  callsIn_wide (n := m)
def noDefer (o : Oper) : Bool := match o.op with | .defer _ => false | _ => true
theorem VCops_soundIn {ro : Option Nat} {m : Nat} {ops : Array Oper} {Q : Exit → Act → World → Prop} {l2 : List Oper} : ∀ (l : List Oper) (K : Env → Hp → Prop) (T : Env) (L : Hp), VCops Γ n ops l K T L → (l.all noDefer) = true → ∀ a w, Fits n T a → Inv Γ L w →
    (∀ T L, K T L → ∀ a w, Fits n T a → Inv Γ L w → wpListIn (FR ro) m Γ.P ops Q l2 a w) → wpListIn (FR ro) m Γ.P ops Q (l ++ l2) a w := by
  intro l
  induction l with
  | nil => intro K T L h _ a w hf hi hk; exact hk _ _ h _ _ hf hi
  | cons o rest ih =>
    intro K T L h hd a w hf hi hk
    simp only [List.all_cons, Bool.and_eq_true] at hd
    simp only [VCops] at h
    rw [List.cons_append]
    rcases guardVC_sound hf h with ⟨hw, h⟩ | ⟨hw, h⟩
    · have hy := VC_sound h w hi
      rw [← hf.eval] at hy
      simp only [wpListIn, hw, if_true]
      refine ⟨fun _ _ => trivial, ?_⟩
      have he : o.semAt ro a.eval = execOp a.eval o := Oper.semAt_eq ro a.eval o (fun c hc => by rw [noDefer, hc] at hd; cases hd.1)
      rw [show (FR ro).round = ro from rfl, he]
      revert hy
      generalize (execOp a.eval o).run Γ.P w = r
      intro hy
      cases r with
      | halt x w' => exact hy.elim
      | ok nx w' =>
        cases nx <;> first | exact hy.elim | skip
        case value v =>
          obtain ⟨L', hi', hk'⟩ := hy
          obtain ⟨T', hf', hk'⟩ := putVC_sound hf hk'
          exact ih _ _ _ hk' hd.2 _ _ hf' hi' hk
        case skip =>
          obtain ⟨L', hi', hk'⟩ := hy
          obtain ⟨T', hf', hk'⟩ := putVC_sound hf hk'
          exact ih _ _ _ hk' hd.2 _ _ hf' hi' hk
        case enter f args =>
          refine ⟨fun h => absurd h (by simp [FR, Fence.wide]), callsIn_FR.2 (Calls.mono hy ?_)⟩
          rintro e w'' ⟨v, L', rfl, hi', hk'⟩
          obtain ⟨T', hf', hk'⟩ := putVC_sound hf hk'
          exact ih _ _ _ hk' hd.2 _ _ hf' hi' hk
    · simp only [wpListIn, hw, Bool.false_eq_true, if_false]
      obtain ⟨T', hf', hk'⟩ := putVC_sound hf h
      exact ⟨fun _ _ => trivial, ih _ _ _ hk' hd.2 _ _ hf' hi hk⟩
end

/-! The iterator's code: its own steps turn nothing that lay. -/
/-- The world has gone on by itself: what lay lies as it lay. -/
abbrev Still (P : Program) (w w' : World) : Prop := Inv ⟨P, w, []⟩ [] w'
theorem Still.refl (P : Program) (w : World) : Still P w w := ⟨fun i j b o o' h => by simp at h, fun b o h => by simp at h, fun b o h => by simp at h, rfl, rfl, rfl, Nat.le_refl _, fun _ _ _ => rfl⟩
theorem Still.grown {P : Program} {w w' : World} (h : Still P w w') : w.grownBy w' none := ⟨h.os, h.tape, h.output, h.size, fun k hk _ => h.old k hk (by simp)⟩
theorem Still.block {P : Program} {w w' : World} (h : Still P w w') {k : Nat} (hk : k < w.heap.size) : w'.heap[k]? = w.heap[k]? := h.old k hk (by simp)
/-- The judgement, the world at hand. -/
def GX (P : Program) (n : Nat) (c : Code) (Q : Exit → Env → World → Prop) (T : Env) (w : World) : Prop :=
  ∀ a, Fits n T a → c.wp P (fun e a' w' => ∃ T', Fits n T' a' ∧ Q e T' w') a w
section
variable {P : Program} {n : Nat} {T : Env} {w : World} {Q : Exit → Env → World → Prop}
theorem GX.still {c : Code} (h : SX ⟨P, w, []⟩ n c (fun e T' _ => ∀ w', Still P w w' → Q e T' w') T []) : GX P n c Q T w := fun a hf =>
  Code.wp_mono (fun e a' w' ⟨T', L', h1, h2, h3⟩ => ⟨T', h1, h3 w' (Inv.tail (A := L') (by rw [List.append_nil]; exact h2))⟩) (h a w hf (Still.refl P w))
theorem GX.seq {x y : Code} {K : Env → World → Prop} (h : GX P n x (fun e T' w' => match e with | .normal => K T' w' | e => Q e T' w') T w) (k : ∀ T' w', K T' w' → GX P n y Q T' w') : GX P n (.seq x y) Q T w := fun a hf => by
  refine wp_seq (Code.wp_mono ?_ (h a hf))
  rintro e a' w' ⟨T', h1, h2⟩
  cases e with
  | normal => exact k T' w' h2 a' h1
  | _ => exact ⟨T', h1, h2⟩
theorem GX.block {id : Nat} {c : Code} (h : GX P n c (fun e T' w' => match e with | .exit id' => if id' = id then Q .normal T' w' else Q (.exit id') T' w' | e => Q e T' w') T w) : GX P n (.block id c) Q T w := fun a hf => by
  refine wp_block (Code.wp_mono ?_ (h a hf))
  rintro e a' w' ⟨T', h1, h2⟩
  cases e with
  | exit id' =>
    simp only [Exit.inBlock] at h2 ⊢
    split at h2
    · rename_i e; subst e; simp; exact ⟨T', h1, h2⟩
    · rename_i e; simp [e]; exact ⟨T', h1, h2⟩
  | _ => exact ⟨T', h1, h2⟩
theorem GX.mono {c : Code} {Q' : Exit → Env → World → Prop} (h : GX P n c Q T w) (k : ∀ e T w, Q e T w → Q' e T w) : GX P n c Q' T w := fun a hf =>
  Code.wp_mono (fun e a' w' ⟨T', h1, h2⟩ => ⟨T', h1, k _ _ _ h2⟩) (h a hf)
theorem GX.loop {c : Code} {σ : Type} (I : σ → Env → World → Prop) (μ : σ → Nat) (s₀ : σ) (h₀ : I s₀ T w)
    (round : ∀ s T w, I s T w → GX P n c (fun e T' w' => match e with | .normal => ∃ s', I s' T' w' ∧ μ s' < μ s | e => Q e T' w') T w) : GX P n (.loop c) Q T w := fun a hf => by
  have key : ∀ m s T w, μ s = m → I s T w → ∀ a, Fits n T a → ∀ b k cs,
      ∃ e a' w', (∃ T', Fits n T' a' ∧ Q e T' w') ∧ Arrives P (lone (b.at a (.code c :: .inLoop c :: k)) cs w) b k cs e a' w' := by
    intro m
    induction m using Nat.strongRecOn with
    | _ m ih =>
      intro s T w hm hI a hf b k cs
      obtain ⟨e, a₁, w₁, ⟨T₁, hf₁, hq⟩, harr⟩ := round s T w hI a hf b (.inLoop c :: k) cs
      cases e with
      | normal =>
        obtain ⟨s₁, hI₁, hlt⟩ := hq
        obtain ⟨e₂, a₂, w₂, hq₂, harr₂⟩ := ih (μ s₁) (hm ▸ hlt) s₁ T₁ w₁ rfl hI₁ a₁ hf₁ b k cs
        exact ⟨e₂, a₂, w₂, hq₂, .of_steps (Steps.trans harr (.one step_inLoop)) harr₂⟩
      | _ => exact ⟨_, a₁, w₁, ⟨T₁, hf₁, hq⟩, .pass (x := .inLoop c) rfl (fun _ _ => .inl (by simp)) harr⟩
  intro b k cs
  obtain ⟨e, a', w', hq, harr⟩ := key _ s₀ T w rfl h₀ a hf b k cs
  exact ⟨e, a', w', hq, .of_steps (.one step_loop) harr⟩
theorem GX.cond {o : Operand} {x y : Code} {b : Bool} (hb : ev T o = .bool b) (ht : b = true → GX P n x Q T w) (hf : b = false → GX P n y Q T w) : GX P n (.cond o x y) Q T w := fun a hft =>
  wp_cond_split (t := b) (by rw [hft.eval]; exact hb) (fun h => ht h a hft) (fun h => hf h a hft)
theorem GX.ret (h : Q .ret T w) : GX P n .ret Q T w := fun a hf => wp_ret ⟨T, hf, h⟩
theorem GX.skip (h : Q .normal T w) : GX P n .skip Q T w := fun a hf => wp_skip ⟨T, hf, h⟩
theorem GX.exit {id : Nat} (h : Q (.exit id) T w) : GX P n (.exit id) Q T w := fun a hf => wp_exit ⟨T, hf, h⟩
theorem run_yield {o : Oper} {x : Operand} {cl : Call} {l : Nat} {w : World} (hop : o.op = .call cl) (hcal : cl.callee = .value x) (hx : ev T x = .func (.yield l) #[] #[]) :
    (execOp (ev T) o).run P w = (Instr.yield l (cl.args.map (ev T))).run P w := by
  simp [execOp, hop, resolve, hcal, hx, Deferred.ofValue, invoke]
/-- A region in which a round is run: l1 ahead of the call of yield, l2 behind it. -/
theorem GX.yields {id : Nat} {l1 l2 : List Oper} {o : Oper} {x : Operand} {cl : Call} {l m d : Nat} {vs : Array Value} {R : Bool → World → Prop}
    (hop : o.op = .call cl) (hcal : cl.callee = .value x) (hg : o.guard = none) (hd : o.dst = some d) (hdn : d < n) (hq1 : l1.all noDefer = true) (hq2 : l2.all noDefer = true)
    (h1 : VCops ⟨P, w, []⟩ n (l1 ++ o :: l2).toArray l1 (fun T1 _ => ev T1 x = .func (.yield l) #[] #[] ∧ cl.args.map (ev T1) = vs ∧
      (∀ w1, Still P w w1 → YieldAt (FR none) m P l vs w1 fun e w2 => ∃ b, e = .returned (.bool b) ∧ R b w2) ∧
      ∀ b w2, R b w2 → VCops ⟨P, w2, []⟩ n (l1 ++ o :: l2).toArray l2 (fun T2 _ => ∀ w3, Still P w2 w3 → Q .normal T2 w3) (upd T1 d (.bool b)) []) T []) :
    GX P n (.region id (l1 ++ o :: l2).toArray false) Q T w := fun a hf => by
  refine (wpIn_wide (n := m + 1)).1 (show (Code.region id (l1 ++ o :: l2).toArray false).wpIn (FR none) (m + 1) P _ a w from wpIn_region_lit ?_)
  refine VCops_soundIn (Γ := ⟨P, w, []⟩) l1 _ T [] h1 hq1 a w hf (Still.refl P w) ?_
  rintro T1 L1 ⟨hx, hv, hY, hk⟩ a1 w1 hf1 hi1
  have hs1 : Still P w w1 := Inv.tail (A := L1) (by rw [List.append_nil]; exact hi1)
  obtain ⟨fn, tmps, assign, body, hrun, hround⟩ := hY w1 hs1
  have hw : Region.wanted o (yielded (l1 ++ o :: l2).toArray a1.tmps) = true := by unfold Region.wanted; rw [hg]
  simp only [wpListIn, hw, if_true]
  refine ⟨fun _ _ => trivial, ?_⟩
  rw [show (FR none).round = none from rfl, Oper.semAt_none, hf1.eval, run_yield hop hcal hx, hv, hrun]
  refine ⟨fun h => absurd h (by simp [FR, Fence.wide]), RoundIn.mono hround ?_⟩
  rintro e w2 ⟨b, rfl, hr⟩
  show wpListIn (FR none) (m + 1) P _ _ l2 (a1.put o.dst (.bool b)) w2
  rw [hd]
  have := VCops_soundIn (Γ := ⟨P, w2, []⟩) (ro := none) (m := m + 1) (l2 := []) (Q := fun e a' w' => ∃ T', Fits n T' a' ∧ Q e T' w') l2 _ _ [] (hk b w2 hr) hq2 _ w2 (hf1.put hdn _) (Still.refl P w2)
    (fun T2 L2 h2 a2 w3 hf2 hi2 => ⟨T2, hf2, h2 w3 (Inv.tail (A := L2) (by rw [List.append_nil]; exact hi2))⟩)
  rwa [List.append_nil] at this
theorem GX.enter {f : FuncId} {fn : Func} {c : Code} {args : List Value} {R : World → Prop} (hf : P.funcs[f]? = some fn) (hb : fn.body = some c) (hn : fn.ntmps = n) (hle : args.length ≤ n) (hres : fn.results = #[])
    (h : GX P n c (fun e _ w' => match e with | .normal => R w' | .ret => R w' | _ => False) (env0 args) w) : Calls P f args.toArray w fun e w' => (∃ v, e = .returned v) ∧ R w' := by
  refine calls_of_wp hf hb (Code.wp_mono ?_ (h _ ⟨?_, rfl, fun i => ?_⟩))
  · rintro e a' w' ⟨T', h1, h2⟩
    cases e with
    | normal => exact ⟨h1.2.1, _, results_none hres _ _ _, ⟨_, rfl⟩, h2⟩
    | ret => exact ⟨h1.2.1, _, results_none hres _ _ _, ⟨_, rfl⟩, h2⟩
    | _ => exact h2.elim
  · simp [hn]; omega
  · rw [env0_getD]
    simp only [Array.getD_eq_getD_getElem?, List.getD_eq_getElem?_getD]
    rw [Array.getElem?_append]
    split
    · simp
    · rename_i hge
      simp at hge
      rw [List.getElem?_eq_none hge]
      simp only [Array.getElem?_replicate]
      split <;> rfl
end
/-! Round by round: the slots' blocks are the round's own, all else lies as it lay. -/
theorem Inv.other {Γ : Ctx} {L : Hp} {W W' : World} {row : Option Nat} (h : Inv Γ L W) (hg : W.grownBy W' row) (hr : ∀ r, row = some r → Γ.w0.heap.size ≤ r ∧ ∀ o, some (r, o) ∉ L) : Inv Γ L W' :=
  ⟨h.inj, fun b o hm => (hg.block b (h.lt hm) (fun e => (hr b e.symm).2 o hm)).trans (h.blk b o hm), h.src, hg.os.trans h.os, hg.tape.trans h.tape, hg.output.trans h.output, Nat.le_trans h.size hg.size,
    fun b hb ho => (hg.block b (Nat.lt_of_lt_of_le hb h.size) (fun e => by have := (hr b e.symm).1; omega)).trans (h.old b hb ho)⟩
end Go.SX
set_option linter.unusedVariables false
set_option linter.unusedSimpArgs false
/-! The last step of a law that answers true and leaves its arguments as they were. -/
namespace Go.SX
open Go.ChangeShapes Go.WideShapes Go.ChangeAt Go.RowKit
section
variable {H : Type} {enc : TypeId × Value → H} {P : Program}

theorem SCall.below {f : FuncId} {args : Array Value} {W : World} {v : Value} (h : SCall ⟨P, W, []⟩ f args [] (fun v' L' => v' = v ∧ L' = [])) :
    Calls P f args W fun e W' => e = .returned v ∧ Below W.heap.size W W' := by
  have hi : Inv ⟨P, W, []⟩ [] W := ⟨fun i j b o o' h => by simp at h, fun b o h => by simp at h, fun b o h => by simp at h, rfl, rfl, rfl, Nat.le_refl _, fun _ _ _ => rfl⟩
  refine (h W hi).mono ?_
  rintro e w' ⟨v', L', he, hi', rfl, rfl⟩
  exact ⟨he, hi'.os, hi'.tape, hi'.output, hi'.size, fun k hk => hi'.old k hk (by simp)⟩

theorem trodAll_stays (hl : laidOutB P = true) {W W' : World} (hb : Below W.heap.size W W') {sp : Nat → Bool} : ∀ {ts : List TypeId} {vs : List Value} {ds : List (DataW H)} {ps : List MemPlace},
    (∀ t ∈ ts, P.readableRec t = true ∧ t < P.types.size) → DataW.TrodAll enc P W 0 (fun _ => true) true ts vs ds ps → (∀ x ∈ ps, x.block < W.heap.size) → (∀ x ∈ ps, sp x.block = true) → DataW.TrodAll enc P W' 0 sp true ts vs ds ps
  | [], vs, ds, ps, _, h, _, _ => by
    obtain ⟨rfl, rfl, rfl⟩ := trodAll_nil h
    exact trodAll_mk0
  | t :: ts, vs, ds, ps, hr, h, hlt, hsp => by
    cases vs with
    | nil => cases ds <;> exact h.elim
    | cons v vs =>
      cases ds with
      | nil => exact h.elim
      | cons d ds =>
        obtain ⟨p, q, h1, h2, rfl⟩ := h
        have hrt := hr t (List.mem_cons_self ..)
        exact ⟨p, q, WideElems.Trod_stays hl hrt.1 hrt.2 h1 (fun x hx => hb.same (hlt x (List.mem_append_left _ hx))) (fun x hx => hsp x (List.mem_append_left _ hx)),
          trodAll_stays hl hb (fun t ht => hr t (List.mem_cons_of_mem _ ht)) h2 (fun x hx => hlt x (List.mem_append_right _ hx)) (fun x hx => hsp x (List.mem_append_right _ hx)), rfl⟩

theorem law_contract {C : Checked} {f : FuncId} {fn : Func} {s : ChangeSpec} {apart : Bool} {tb : TypeId} (hv : s.vars = []) (hlaid : laidOutB C.prog = true) (hread : fn.params.toList.all (fun t => C.prog.readableRec t && decide (t < C.prog.types.size)) = true)
    (hres : fn.resultTypes = #[tb]) (htb : C.prog.underlying tb = some .bool)
    (hspec : ∀ ds : List (DataW H), ds.length = fn.params.toList.length → s.fn H ds = { results := [.lit (.bool true)], args := ds, vars := [] })
    {W : World} {args : Array Value} {ds gs : List (DataW H)} {before : List MemPlace} (hW : DataW.Whole enc C.prog fn.params.toList s.vars apart W args.toList ds gs before)
    (hcall : ∀ p, DataW.TrodAll enc C.prog W 0 (fun _ => true) true fn.params.toList args.toList ds p → Calls C.prog f args W fun e W' => e = .returned (.bool true) ∧ Below W.heap.size W W') :
    Calls C.prog f args W fun e W' => ∃ v, e = .returned v ∧ s.post enc C.prog fn apart true false false W args v W' := by
  have hW' := hW
  obtain ⟨p, q, hA, hV, rfl, hfz, hnd⟩ := hW
  rw [hv] at hV
  obtain ⟨rfl, rfl⟩ := trodVars_none hV
  simp only [List.append_nil] at hW' hfz hnd
  have hlen : ds.length = fn.params.toList.length := (trodAll_length hA).2
  have hlt : ∀ x ∈ p, x.block < W.heap.size := fun x hx => hW'.lt x hx
  have hread' : ∀ t ∈ fn.params.toList, C.prog.readableRec t = true ∧ t < C.prog.types.size := fun t ht => by
    have := List.all_eq_true.1 hread t ht
    simpa using this
  refine (hcall p hA).mono fun e W' ⟨he, hb⟩ => ?_
  subst he
  have e1 : s.fn H (ds ++ []) = { results := [.lit (.bool true)], args := ds, vars := [] } := by rw [List.append_nil, hspec ds hlen]
  have hok : ∀ (j : Nat) (t : TypeId) (r : Value), fn.resultTypes[j]? = some t → ((Value.bool true).resultList fn.resultTypes.size)[j]? = some r → Value.okWide C.prog W' .any 0 t r := ok_one hres rfl (okWide_bool_mk htb _)
  have hr0 : ∀ (b : Nat) (sp : Nat → Bool) (hd : Bool), DataW.TrodAll enc C.prog W' b sp hd fn.resultTypes.toList ((Value.bool true).resultList fn.resultTypes.size) (s.fn H (ds ++ [])).results [] := fun b sp hd => by
    rw [e1, hres]
    exact trodAll_cons_mk (shut_bool htb _) trodAll_mk0
  have ha0 : ∀ sp : Nat → Bool, (∀ x ∈ p, sp x.block = true) → DataW.TrodAll enc C.prog W' 0 sp true fn.params.toList args.toList (s.fn H (ds ++ [])).args p := fun sp hsp => by
    rw [e1]
    exact trodAll_stays hlaid hb hread' hA hlt hsp
  have hold : ∀ x ∈ p, (fun b => decide (b < W.heap.size)) x.block = true := fun x hx => by simpa using hlt x hx
  have hv0 : ∀ sp : Nat → Bool, DataW.TrodVars enc C.prog W' sp s.vars (s.fn H (ds ++ [])).vars [] := fun sp => by rw [hv, e1]; rfl
  refine ⟨_, rfl, ds, [], p, [], p, [], by simpa using hW', hr0 _ _ _, ha0 _ hold, hv0 _, World.keptBut_mono (fun x hx => ⟨hx, ?_⟩) (hb.frame (· ∈ p)), fun _ => ?_⟩
  · simpa using hx
  · obtain ⟨_, _, _, _, _, hz, hn⟩ := hW'
    refine ⟨hok, _, _, ([] ++ p) ++ [], ⟨[] ++ p, [], trodAll_append (ha0 _ (fun _ _ => rfl)) (hr0 _ _ _), hv0 _, rfl, ?_, ?_⟩, ?_⟩
    · intro b off hp
      have hin : MemPlace.cell b off ∈ p := by simpa using hp
      rw [hb.frozen (hlt _ hin)]
      exact hz b off hin
    · intro ha
      have := hn ha
      simpa using this
    · intro x hx _
      simpa using hx

end
end Go.SX
set_option linter.unusedVariables false
set_option linter.unusedSimpArgs false
/-! '==' of structs and arrays of whole numbers, bools and strings, to whatever depth. -/
namespace Go.SX
open Go.RowKit
end Go.SX
set_option linter.unusedVariables false
set_option linter.unusedSimpArgs false
/-! Tables that lie in the program's variables. -/
namespace Go.SX
open Go.ChangeShapes Go.WideShapes Go.ChangeAt Go.RowKit
section
variable {H : Type} {enc : TypeId × Value → H} {P : Program} {w : World} {base : Nat} {spare : Nat → Bool} {held : Bool} {fuel : Nat} {cs : List Value} {x : DataW H × List MemPlace}
def litsD {H : Type} (k : IntKind) (zs : List Int) : List (DataW H) := zs.map fun z => .lit (.int k z)
theorem trod_arr_ints {t e n : TypeId} {k : IntKind} {zs : List Int} (hu : P.underlying t = some (.array n e)) (he : P.underlying e = some (.int k)) (hc : P.cellsOf e = 1) (ht : P.cellsOf t = n)
    (h : DataW.trod enc P w base spare held fuel t cs = some x) (hx : x.1 = .agg (litsD k zs)) : cs = ints k zs := by
  obtain ⟨xs, m, rfl, rfl, hlen, hn, hel⟩ := DataW.trod_array hu h
  simp only [DataW.agg.injEq] at hx
  have hzl : zs.length = n := by
    have := congrArg List.length hx
    simp [litsD] at this
    omega
  refine List.ext_getElem? fun i => ?_
  by_cases hi : i < n
  · have h1 := hel i hi
    rw [hc, Nat.mul_one] at h1
    have hxi : xs[i]? = some (xs[i]'(by omega)) := List.getElem?_eq_getElem (by omega)
    rw [hxi] at h1
    obtain ⟨z, e1, e2, _⟩ := DataW.trod_int he h1
    have h2 := congrArg (fun l => l[i]?) hx
    simp only [List.getElem?_map, hxi, litsD, Option.map_some, e2] at h2
    have hzi : zs[i]? = some (zs[i]'(by omega)) := List.getElem?_eq_getElem (by omega)
    rw [hzi] at h2
    simp only [Option.map_some, Option.some.injEq, DataW.lit.injEq, Lit.int.injEq, true_and] at h2
    have h3 : cs[i]? = some (.int k z) := by
      have := congrArg List.head? e1
      rw [List.head?_take, if_neg (by omega), List.head?_drop] at this
      exact this
    rw [h3, ints_at, hzi, h2]
    rfl
  · rw [List.getElem?_eq_none (by omega), List.getElem?_eq_none (by rw [ints_length]; omega)]
theorem trod_arr_arr {t e u n m : TypeId} {k : IntKind} {zss : List (List Int)} (hu : P.underlying t = some (.array n e)) (he : P.underlying e = some (.array m u)) (hi : P.underlying u = some (.int k)) (hc : P.cellsOf u = 1) (hce : P.cellsOf e = m) (hct : P.cellsOf t = n * m)
    (hz : ∀ zs ∈ zss, zs.length = m)
    (h : DataW.trod enc P w base spare held fuel t cs = some x) (hx : x.1 = .agg (zss.map fun zs => .agg (litsD k zs))) : ∀ (i j : Nat) (zs : List Int) (z : Int), zss[i]? = some zs → zs[j]? = some z → cs[i * m + j]? = some (.int k z) := by
  obtain ⟨xs, f, rfl, rfl, hlen, hn, hel⟩ := DataW.trod_array hu h
  simp only [DataW.agg.injEq] at hx
  intro i j zs z hzi hzj
  have hil : i < zss.length := (List.getElem?_eq_some_iff.1 hzi).1
  have hl2 : zss.length = n := by
    have := congrArg List.length hx
    simp at this
    omega
  have h1 := hel i (by omega)
  rw [hce] at h1
  have hxi : xs[i]? = some (xs[i]'(by omega)) := List.getElem?_eq_getElem (by omega)
  rw [hxi] at h1
  have h2 := congrArg (fun l => l[i]?) hx
  simp only [List.getElem?_map, hxi, hzi, Option.map_some, Option.some.injEq] at h2
  have h3 := trod_arr_ints he hi hc hce h1 h2
  have hjm : j < m := by
    have := (List.getElem?_eq_some_iff.1 hzj).1
    rw [hz zs (List.mem_of_getElem? hzi)] at this
    exact this
  have h4 := congrArg (fun l => l[j]?) h3
  simp only [ints_at, hzj, Option.map_some, List.getElem?_take, if_pos hjm, List.getElem?_drop] at h4
  exact h4
end

end Go.SX
set_option linter.unusedVariables false
set_option linter.unusedSimpArgs false
/-! What is handed in, of types of whole numbers, bools and strings (structs and arrays of such, slices of these). -/
namespace Go.SX
open Go.ChangeShapes Go.WideShapes Go.ChangeAt Go.RowKit
section
variable {H : Type} {enc : TypeId × Value → H} {P : Program}
/-- What lies in one element: its cells. -/
def RS {α : Type} (f : α → List Value) : (Addr → Value → Prop) → Addr → α → Prop := fun C a x => ∀ i u, (f x)[i]? = some u → C (a.add i) u
abbrev SlS {α : Type} (sz : Nat) (f : α → List Value) := Sl sz (RS f)
end
end Go.SX
namespace Go.SX
open Go.ChangeShapes Go.WideShapes Go.ChangeAt Go.RowKit
theorem laid_vars {P : Program} {W : World} : ∀ {laid : List (String × DataW Unit)} {ps : List MemPlace} {n : String} {d : DataW Unit}, DataW.LaidVars P W laid ps → (n, d) ∈ laid → ∃ (g : Nat) (t : TypeId) (cs : Array Value) (f : Nat) (p : List MemPlace),
    P.globalNamed n = some g ∧ (P.globals[g]?).map (·.type) = some t ∧ W.var? P n = some cs ∧ DataW.trod (fun _ => ()) P W 0 (fun _ => true) false f t cs.toList = some (d, p)
  | [], _, _, _, _, h => by cases h
  | (m, e) :: r, ps, n, d, hl, h => by
    obtain ⟨g, t, cs, f, p, q, h1, h2, h3, h4, h5, _⟩ := hl
    rcases List.mem_cons.1 h with h | h
    · cases h; exact ⟨g, t, cs, f, p, h1, h2, h3, h4⟩
    · exact laid_vars h5 h
theorem laid_var {P : Program} {W : World} {laid : List (String × DataW Unit)} {n : String} {d : DataW Unit} {g : Nat} {t : TypeId} (hp : (laid.all fun x => x.2.handleName?.isNone) = true) (hL : laidMetH P laid W) (hm : (n, d) ∈ laid)
    (hg : P.globalNamed n = some g) (ht : (P.globals[g]?).map (·.type) = some t) : ∃ (cs : List Value) (f : Nat) (p : List MemPlace), DataW.trod (fun _ => ()) P W 0 (fun _ => true) false f t cs = some (d, p) ∧ ∀ j, W.cell? ⟨g, j, none⟩ = cs[j]? := by
  rw [MakeChecks.laidMetH_plain _ _ _ hp] at hL
  obtain ⟨ps, h, _⟩ := hL
  obtain ⟨g', t', cs, f, p, h1, h2, h3, h4⟩ := laid_vars h hm
  obtain rfl := Option.some.inj (hg.symm.trans h1)
  obtain rfl := Option.some.inj (ht.symm.trans h2)
  exact ⟨cs.toList, f, p, h4, fun j => by rw [World.var?_cell h1 h3 j, Array.getElem?_toList]⟩
end Go.SX
set_option linter.unusedVariables false
set_option linter.unusedSimpArgs false
/-! Rows of structs: a slice of one's own whose elements are lists of cells. -/
namespace Go.SX
open Go.RowKit
section
variable {Γ : Ctx} {L : Hp} {α : Type} {f : α → List Value} {e sz : Nat}
theorem flat_len (hf : ∀ x, (f x).length = sz) : ∀ l : List α, (l.flatMap f).length = l.length * sz
  | [] => by simp
  | x :: l => by rw [List.flatMap_cons, List.length_append, hf, flat_len hf l, List.length_cons, Nat.add_one_mul]; omega
theorem flat_at (hf : ∀ x, (f x).length = sz) : ∀ {l : List α} {j k : Nat} {x : α}, l[j]? = some x → k < sz → (l.flatMap f)[j * sz + k]? = (f x)[k]?
  | [], j, k, x, h, _ => by simp at h
  | y :: l, 0, k, x, h, hk => by
    simp at h; subst h
    rw [List.flatMap_cons, Nat.zero_mul, Nat.zero_add, List.getElem?_append_left (by rw [hf]; exact hk)]
  | y :: l, j + 1, k, x, h, hk => by
    rw [List.flatMap_cons, List.getElem?_append_right (by rw [hf, Nat.add_one_mul]; omega), hf, Nat.add_one_mul, show j * sz + sz + k - sz = j * sz + k by omega]
    exact flat_at hf (by simpa using h) hk
abbrev RowL (f : α → List Value) (e sz : Nat) (v : Value) (l : List α) (s : Slot) : Prop := Row e sz v l.length (l.flatMap f) s
theorem RowL.nil (f : α → List Value) (e sz : Nat) : RowL f e sz (.slice none 0 0) [] none := Row.nil e sz
theorem RowL.sl {v : Value} {l : List α} {s : Slot} {i : Nat} (hf : ∀ x, (f x).length = sz) (h : RowL f e sz v l s) (hL : L[i]? = some s) : SlS sz f (Cell Γ L) v l :=
  Row.sl h hL rfl fun C j x a hj hk => fun k u hu => by
    have hks : k < sz := by rw [← hf x]; exact (List.getElem?_eq_some_iff.1 hu).1
    exact hk k hks u (by rw [flat_at hf hj hks]; exact hu)
/-- append(v, x). -/
theorem YAppend.rowL {ty by_ i b : Nat} {z : List Value} {v : Value} {l : List α} {x : α} {s : Slot} {fr : Nat × Nat} {K : Value → Hp → Prop}
    (hel : elS Γ.P ty = some (e, sz, by_)) (hz : zr Γ.P e = some z) (hzl : z.length = sz) (hf : (f x).length = sz) (h1 : oneB (f x) = true) (hL : L[i]? = some s) (hr : RowL f e sz v l s)
    (hb : (l.length + 1) * by_ ≤ 140737488355328) (hb0 : 0 < by_) (hK : ∀ v' s', RowL f e sz v' (l ++ [x]) s' → K v' (some (b, .cells (f x).toArray e fr) :: L.set i s')) :
    YAppend Γ ty ty v (.slice (some ⟨b, 0, none⟩) 1 1) (some (b, .cells (f x).toArray e fr) :: L) K := by
  refine YAppend.row (i := i + 1) (ys := f x) (m := 1) hel hz hzl (by simpa using hL) hr (SrcV.lit (ys := f x) (by rw [hel]; rfl) (by rw [hf]; omega) h1) (by rw [hf]; omega) hb hb0 fun v' s' hr' => ?_
  have := hK v' s' (by
    show Row e sz v' (l ++ [x]).length ((l ++ [x]).flatMap f) s'
    rw [List.flatMap_append, List.length_append]
    simpa using hr')
  simpa using this
theorem RowL.form {v : Value} {l : List α} {s : Slot} (h : RowL f e sz v l s) (hl : 0 < l.length) :
    ∃ g cap junk, v = .slice (some ⟨g, 0, none⟩) l.length cap ∧ s = some (g, .cells (l.flatMap f ++ junk).toArray e (0, 0)) ∧ (l.length ≤ cap ∧ cap ≤ 9223372036854775807) ∧ (l.flatMap f ++ junk).length = cap * sz := by
  obtain ⟨_, ⟨_, h0, _⟩ | ⟨g, cap, junk, h1, h2, h3, h4⟩⟩ := h
  · omega
  · exact ⟨g, cap, junk, h1, h2, h3, h4⟩
theorem RowL.mk {l : List α} {g cap : Nat} {junk : List Value} (hf : ∀ x, (f x).length = sz) (hc : l.length ≤ cap ∧ cap ≤ 9223372036854775807) (hl : (l.flatMap f ++ junk).length = cap * sz) :
    RowL f e sz (.slice (some ⟨g, 0, none⟩) l.length cap) l (some (g, .cells (l.flatMap f ++ junk).toArray e (0, 0))) :=
  ⟨flat_len hf l, .inr ⟨g, cap, junk, rfl, rfl, hc, hl⟩⟩
end
end Go.SX
set_option linter.unusedVariables false
set_option linter.unusedSimpArgs false
/-! append to a row of which an elder slice still reads the head. -/
namespace Go.SX
open Go.RowKit
def apartS (s t : Slot) : Prop := ∀ b (o o' : Obj), s = some (b, o) → t = some (b, o') → False
theorem inj_pairwise {L : Hp} : (∀ (i j b : Nat) (o o' : Obj), L[i]? = some (some (b, o)) → L[j]? = some (some (b, o')) → i = j) ↔ L.Pairwise apartS := by
  rw [List.pairwise_iff_getElem]
  constructor
  · intro h i j hi hj hij b o o' h1 h2
    have := h i j b o o' (by rw [List.getElem?_eq_getElem hi, h1]) (by rw [List.getElem?_eq_getElem hj, h2])
    omega
  · intro h i j b o o' h1 h2
    obtain ⟨hi, e1⟩ := List.getElem?_eq_some_iff.1 h1
    obtain ⟨hj, e2⟩ := List.getElem?_eq_some_iff.1 h2
    rcases Nat.lt_trichotomy i j with hlt | rfl | hlt
    · exact (h i j hi hj hlt b o o' e1 e2).elim
    · rfl
    · exact (h j i hj hi hlt b o' o e2 e1).elim
theorem Less.of_pairwise {L L' : Hp} (h : L.Pairwise apartS → L'.Pairwise apartS) (hm : ∀ s, s ∈ L' → s ∈ L) : Less L L' := fun Γ w hi =>
  { hi with
    inj := inj_pairwise.2 (h (inj_pairwise.1 hi.inj))
    blk := fun b o hb => hi.blk b o (hm _ hb)
    src := fun b o hb => hi.src b o (hm _ hb) }
theorem Less.perm {L L' : Hp} (h : L.Perm L') : Less L L' := .of_pairwise (fun hp => (h.pairwise_iff (fun {a b} hab b' o o' h1 h2 => hab b' o' o h2 h1)).1 hp) fun s hs => h.mem_iff.2 hs
theorem Less.sublist {L L' : Hp} (h : L'.Sublist L) : Less L L' := .of_pairwise (fun hp => hp.sublist h) fun s hs => h.subset hs

section
variable {Γ : Ctx} {α : Type} {f : α → List Value}
/-- An elder slice vb reads lb: at the head of the row (v, xs), or in the block t that the row has left. -/
def View (f : α → List Value) (e : Nat) (vb : Value) (lb : List α) (v : Value) (t : Slot) (n : Nat) (xs : List Value) : Prop :=
  (∀ b o, t = some (b, o) → ∃ cs fr, o = Obj.cells cs e fr) ∧ (lb = [] ∨ ∃ g cb, vb = .slice (some ⟨g, 0, none⟩) lb.length cb ∧ lb.length ≤ cb ∧
    ((∃ cap, v = .slice (some ⟨g, 0, none⟩) n cap ∧ lb.flatMap f <+: xs) ∨ ∃ (cs : List Value) (ty : TypeId) (fr : Nat × Nat), t = some (g, .cells cs.toArray ty fr) ∧ lb.flatMap f <+: cs))
theorem View.sl {e sz n : Nat} {v vb : Value} {lb : List α} {s t : Slot} {xs : List Value} {P L0 : Hp} (hf : ∀ x, (f x).length = sz) (h : View f e vb lb v t n xs) (hr : Row e sz v n xs s) (hvb : ∃ A c, vb = .slice A lb.length c ∧ lb.length ≤ c) : SlS sz f (Cell Γ (P ++ s :: t :: L0)) vb lb := by
  obtain ⟨A, c, rfl, hc⟩ := hvb
  refine ⟨A, c, rfl, hc, fun j x hj => ?_⟩
  obtain ⟨_, h⟩ := h
  rcases h with rfl | ⟨g, cb, e1, e2, h⟩
  · simp at hj
  cases e1
  refine ⟨_, rfl, fun i u hu => ?_⟩
  have hi : i < sz := by rw [← hf x]; exact (List.getElem?_eq_some_iff.1 hu).1
  have hflat : (lb.flatMap f)[j * sz + i]? = some u := by rw [flat_at hf hj hi]; exact hu
  have pre : ∀ {cs : List Value}, lb.flatMap f <+: cs → cs[j * sz + i]? = some u := fun {cs} hp => by
    obtain ⟨r, rfl⟩ := hp
    rw [List.getElem?_append_left (List.getElem?_eq_some_iff.1 hflat).1]; exact hflat
  rw [add_addS, Addr.add_lit, Nat.zero_add]
  rcases h with ⟨cap, rfl, hp⟩ | ⟨cs, ty, fr, rfl, hp⟩
  · obtain ⟨_, ⟨e3, _, _⟩ | ⟨g', cap', junk, e3, rfl, _, _⟩⟩ := hr
    · cases e3
    · cases e3
      refine Cell.at (xs := xs ++ junk) (t := e) (fr := (0, 0)) P.length (by simp) ?_
      exact pre (hp.trans (List.prefix_append _ _))
  · refine Cell.at (xs := cs) (t := ty) (fr := fr) (P.length + 1) (by simp) ?_
    exact pre hp
end
end Go.SX
set_option linter.unusedVariables false
set_option linter.unusedSimpArgs false
/-! copy(dst, src): cells, whole numbers, structs; cells that stay where a slot changes. -/
namespace Go.SX
open Go.RowKit Go.ChangeShapes Go.WideShapes Go.ChangeAt
section
variable {Γ : Ctx} {L : Hp}
theorem RowI.form2 {k : IntKind} {e : TypeId} {v : Value} {l : List Int} {s : Slot} (h : RowI k e v l s) (hl : 0 < l.length) :
    ∃ r cap junk, v = .slice (some ⟨r, 0, none⟩) l.length cap ∧ s = some (r, .cells (SX.ints k l ++ junk).toArray e (0, 0)) ∧ (l.length ≤ cap ∧ cap ≤ 9223372036854775807) ∧ l.length + junk.length = cap := by
  obtain ⟨_, ⟨_, hn, _⟩ | ⟨r, cap, junk, h1, h2, h3, h4⟩⟩ := h
  · omega
  · refine ⟨r, cap, junk, h1, h2, h3, ?_⟩
    rw [List.length_append, ints_length] at h4
    omega
theorem RowI.mk2 {k : IntKind} {e : TypeId} {l : List Int} {r cap : Nat} {junk : List Value} (hc : l.length ≤ cap ∧ cap ≤ 9223372036854775807) (hj : l.length + junk.length = cap) :
    RowI k e (.slice (some ⟨r, 0, none⟩) l.length cap) l (some (r, .cells (SX.ints k l ++ junk).toArray e (0, 0))) :=
  ⟨by rw [ints_length, Nat.mul_one], .inr ⟨r, cap, junk, rfl, rfl, hc, by rw [List.length_append, ints_length]; omega⟩⟩
theorem YCopy.cells {ty tx e : TypeId} {sz by_ b off dn dc m c i : Nat} {A : Option Addr} {src cs : List Value} {t' : TypeId} {fr : Nat × Nat} {K : Value → Hp → Prop}
    (hel : elS Γ.P ty = some (e, sz, by_)) (hsl : src.length = m * sz) (hsrc : ∀ j u, src[j]? = some u → ∃ a, A = some a ∧ Cell Γ L (a.add j) u) (h1 : oneB src = true)
    (hL : L[i]? = some (some (b, .cells cs.toArray t' fr))) (hfit : off + min m dn * sz ≤ cs.length) (hfr : off + min m dn * sz ≤ fr.1 ∨ fr.2 ≤ off)
    (hk : K (.int .i64 ((min m dn : Nat) : Int)) (L.set i (some (b, .cells (setN cs off (src.take (min m dn * sz))).toArray t' fr)))) :
    YCopy Γ ty tx (.slice (some ⟨b, off, none⟩) dn dc) (.slice A m c) L K := by
  intro w hi
  obtain ⟨hu, i0, hi1, hi2, hi3⟩ := elS_some hel
  have hblk := hi.blk _ _ (List.mem_of_getElem? hL)
  have hlen : (src.take (min m dn * sz)).length = min m dn * sz := by
    rw [List.length_take, hsl]
    exact Nat.min_eq_left (Nat.mul_le_mul_right _ (Nat.min_le_left _ _))
  have hone : oneB (src.take (min m dn * sz)) = true := List.all_eq_true.2 fun u hu => List.all_eq_true.1 h1 u (List.mem_of_mem_take hu)
  have hf : (Builtin.firstCells i0.size (Nat.min m dn) (.slice A m c)).run Γ.P w = .ok (src.take (min m dn * sz)).toArray w := by
    cases hs : src with
    | nil =>
      cases A with
      | none => rw [List.take_nil]; exact run_firstCells_none w _ _ _ _
      | some a => exact run_firstCells_some w _ _ a m c _ (by rw [List.take_nil, hi2]; rw [hs, List.take_nil] at hlen; exact hlen) (fun j v hj => by simp at hj)
    | cons u0 us =>
      obtain ⟨a, rfl, _⟩ := hsrc 0 u0 (by rw [hs]; rfl)
      rw [← hs]
      refine run_firstCells_some w _ _ a m c _ (by rw [hi2]; exact hlen) (fun j v hj => ?_)
      rw [List.getElem?_take] at hj
      split at hj
      · obtain ⟨a', ha', hc⟩ := hsrc j v hj
        cases ha'
        exact hc.real hi
      · cases hj
  obtain ⟨w', hr, h2, h3, h4, h5, h6, h7⟩ := run_storeCells (P := Γ.P) (src.take (min m dn * sz)) w b off 0 cs t' fr hblk (by rw [hlen]; simpa using hfit) (by rw [hlen]; simpa using hfr) hone
  refine ⟨_, w', _, fun t => ?_, hi.set hL (by simpa using h2) h3 h4 h5 h6 h7, hk⟩
  simp [Builtin.copy_, run_underlying hu, Builtin.lenOf, sizeOf, typeInfo, hi1, hf, hr]
  rfl
theorem YCopy.ints {k : IntKind} {ty tx e : TypeId} {by_ b dn dc i : Nat} {x : Value} {l : List Int} {cs : List Value} {t' : TypeId} {fr : Nat × Nat} {K : Value → Hp → Prop}
    (hel : elS Γ.P ty = some (e, 1, by_)) (hx : SlI k (Cell Γ L) x l)
    (hL : L[i]? = some (some (b, .cells cs.toArray t' fr))) (hfit : min l.length dn ≤ cs.length) (hfr : min l.length dn ≤ fr.1 ∨ fr.2 ≤ 0)
    (hk : K (.int .i64 ((min l.length dn : Nat) : Int)) (L.set i (some (b, .cells (SX.ints k (l.take dn) ++ cs.drop (min l.length dn)).toArray t' fr)))) :
    YCopy Γ ty tx (.slice (some ⟨b, 0, none⟩) dn dc) x L K := by
  obtain ⟨A, c, rfl, hc, hA⟩ := hx
  refine YCopy.cells (i := i) (src := SX.ints k l) (off := 0) hel (by rw [ints_length, Nat.mul_one]) (fun j u hj => ?_) (ints_oneB k l) hL (by omega) (by omega) ?_
  · rw [ints_at] at hj
    obtain ⟨x, hx, rfl⟩ := Option.map_eq_some_iff.1 hj
    obtain ⟨a', ha', hc'⟩ := hA j x hx
    exact ⟨a', ha', by simpa [RInt] using hc'⟩
  · have e1 : (SX.ints k l).take (min l.length dn * 1) = SX.ints k (l.take dn) := by
      rw [Nat.mul_one]
      unfold SX.ints
      rw [← List.map_take]
      congr 1
      by_cases h : l.length ≤ dn
      · rw [Nat.min_eq_left h, List.take_of_length_le (Nat.le_refl _), List.take_of_length_le h]
      · rw [Nat.min_eq_right (by omega)]
    have hl2 : (SX.ints k (l.take dn)).length = min l.length dn := by rw [ints_length, List.length_take, Nat.min_comm]
    have e2 := setN_app (SX.ints k (l.take dn)) [] cs (by rw [hl2]; exact hfit)
    rw [hl2] at e2
    rw [e1]
    simp only [List.nil_append, List.length_nil] at e2
    rw [e2]
    exact hk
theorem SlS.cons {α : Type} {sz : Nat} {f : α → List Value} (p : Slot) {v : Value} {xs : List α} (h : SlS sz f (Cell Γ L) v xs) : SlS sz f (Cell Γ (p :: L)) v xs := by
  obtain ⟨A, c, h1, h2, h3⟩ := h
  exact ⟨A, c, h1, h2, fun j x hj => let ⟨a, e1, e2⟩ := h3 j x hj; ⟨a, e1, fun k u hu => Cell.cons p (e2 k u hu)⟩⟩
theorem Cell.any {a : Addr} {v : Value} (h : Cell Γ [] a v) : Cell Γ L a v := by
  rcases h with ⟨_, _, _, _, hm, _⟩ | h
  · cases hm
  · exact .inr h
theorem Sl.any {α : Type} {sz : Nat} {R : (Addr → Value → Prop) → Addr → α → Prop} {v : Value} {xs : List α} (hR : ∀ a x, R (Cell Γ []) a x → R (Cell Γ L) a x) (h : Sl sz R (Cell Γ []) v xs) : Sl sz R (Cell Γ L) v xs := by
  obtain ⟨A, c, h1, h2, h3⟩ := h
  exact ⟨A, c, h1, h2, fun j x hj => let ⟨a, e1, e2⟩ := h3 j x hj; ⟨a, e1, hR _ _ e2⟩⟩
theorem SlI.any {k : IntKind} {v : Value} {xs : List Int} (h : SlI k (Cell Γ []) v xs) : SlI k (Cell Γ L) v xs := Sl.any (fun _ _ h => Cell.any h) h
theorem SCall.less {f : FuncId} {args : Array Value} {R R' : Value → Hp → Prop} (h : SCall Γ f args L R) (hr : ∀ v L', R v L' → ∃ L'', Less L' L'' ∧ R' v L'') : SCall Γ f args L R' :=
  fun w hi => (h w hi).mono fun _ _ ⟨v, L', h1, h2, h3⟩ => let ⟨L'', k1, k2⟩ := hr v L' h3; ⟨v, L'', h1, k1 _ _ h2, k2⟩
end
section
variable {H : Type} {enc : TypeId × Value → H} {P : Program}
end
end Go.SX
